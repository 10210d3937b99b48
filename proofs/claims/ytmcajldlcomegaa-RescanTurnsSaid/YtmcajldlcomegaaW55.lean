/- RescanCompares, part 10: the reference's With and place. -/
import Derived.Test.YtmcajldlcomegaaW54
namespace Go.Proofs.Ytmcajldlcomegaa
open Go Go.Eng

/-! ### With -/
def leS (a b : ByteArray) : Bool := Op.bytesLess a.toList b.toList || a.toList == b.toList
theorem leS_iff {a b : ByteArray} : leS a b = true ↔ bl a b ∨ a = b := by
  unfold leS bl
  rw [Bool.or_eq_true]
  constructor
  · rintro (h | h)
    · exact .inl h
    · exact .inr (str_inj (by simpa using h))
  · rintro (h | rfl)
    · exact .inl h
    · exact .inr (by simp)
theorem sleq {P : Program} {n : Nat} {f : Fr} {dst : Option Nat} {ty : TypeId} {pos : String} {aft : Array Edge} {gd : Option (Nat × Bool)} {t t2 : Nat} {x y : Operand} {p q : ByteArray} {b : Bool} (hx : ev n f x = .string p) (hy : ev n f y = .string q) (h : leS p q = b) :
    PV P n f ⟨dst, .binOp .leq t x y t2, ty, pos, aft, gd⟩ (.bool b) := by
  subst h
  unfold PV; intro w; simp [execOp, hx, hy, eqGuard, binOp, Op.stringOp, leS]
/-- what With appends at an element -/
def wAt (s : ByteArray) (d : Bool) (x : ByteArray) : List ByteArray := (if !d && leS s x then [s] else []) ++ (if x = s then [] else [x])
def wth (s : ByteArray) : Bool → List ByteArray → List ByteArray
  | d, [] => if d then [] else [s]
  | d, x :: xs => wAt s d x ++ wth s (d || leS s x) xs
theorem wth_true (s : ByteArray) : ∀ (l : List ByteArray), wth s true l = l.filter fun x => !decide (x = s)
  | [] => rfl
  | x :: xs => by
    simp only [wth, wAt, Bool.not_true, Bool.false_and, Bool.true_or, wth_true s xs, List.filter_cons]
    by_cases h : x = s <;> simp [h]
theorem wth_asc (s : ByteArray) : ∀ (l : List ByteArray), Asc l → Asc (wth s false l) ∧ ∀ a, a ∈ wth s false l ↔ a = s ∨ a ∈ l
  | [], _ => ⟨by simp [wth, Asc], fun a => by simp [wth]⟩
  | x :: xs, h => by
    obtain ⟨h1, h2⟩ := List.pairwise_cons.1 h
    cases hle : leS s x with
    | false =>
      have hn : ¬ (bl s x ∨ s = x) := fun k => by rw [leS_iff.2 k] at hle; cases hle
      have hxs : x ≠ s := fun e => hn (.inr e.symm)
      have hbx : bl x s := bl_total (fun e => hn (.inr e)) fun k => hn (.inl k)
      obtain ⟨i1, i2⟩ := wth_asc s xs h2
      have e : wth s false (x :: xs) = x :: wth s false xs := by simp [wth, wAt, hle, hxs]
      rw [e]
      refine ⟨List.pairwise_cons.2 ⟨fun a ha => ?_, i1⟩, fun a => ?_⟩
      · rcases (i2 a).1 ha with rfl | ha
        · exact hbx
        · exact h1 a ha
      · rw [List.mem_cons, i2 a, List.mem_cons]
        constructor
        · rintro (h | h | h)
          · exact .inr (.inl h)
          · exact .inl h
          · exact .inr (.inr h)
        · rintro (h | h | h)
          · exact .inr (.inl h)
          · exact .inl h
          · exact .inr (.inr h)
    | true =>
      have hsx := leS_iff.1 hle
      have hxs : ∀ y ∈ xs, y ≠ s := fun y hy e => by
        subst e
        rcases hsx with k | rfl
        · exact bl_irr _ (bl_trans k (h1 y hy))
        · exact bl_irr _ (h1 y hy)
      have ef : xs.filter (fun x => !decide (x = s)) = xs := List.filter_eq_self.2 fun y hy => by simp [hxs y hy]
      by_cases hx : x = s
      · subst hx
        have e : wth x false (x :: xs) = x :: xs := by simp [wth, wAt, hle, wth_true, ef]
        rw [e]
        exact ⟨h, fun a => by simp⟩
      · have hb : bl s x := hsx.resolve_right fun e => hx e.symm
        have e : wth s false (x :: xs) = s :: x :: xs := by simp [wth, wAt, hle, hx, wth_true, ef]
        rw [e]
        refine ⟨List.pairwise_cons.2 ⟨fun a ha => ?_, h⟩, fun a => by simp⟩
        rcases List.mem_cons.1 ha with rfl | ha
        · exact hb
        · exact bl_trans hb (h1 a ha)
theorem wth_len (s : ByteArray) : ∀ (d : Bool) (l : List ByteArray), (wth s d l).length ≤ l.length + (if d then 0 else 1)
  | d, [] => by cases d <;> simp [wth]
  | d, x :: xs => by
    have ih := wth_len s (d || leS s x) xs
    simp only [wth, wAt, List.length_append, List.length_cons]
    cases d <;> cases hl : leS s x <;> simp [hl] at ih ⊢ <;> split <;> simp <;> omega
theorem strs_snoc' (l : List ByteArray) (s : ByteArray) : strs (l ++ [s]) = strs l ++ [.string s] := by simp [strs]
set_option maxHeartbeats 1000000 in
theorem With_99 (v : Value) (l : List ByteArray) (s : ByteArray) (i : Imm) (L : SH) (hv : Sl i v 1 l.length (strs l)) (hn : l.length ≤ 1000000000) :
    FnS Try.prog 99 [v, .string s] i L fun u i' L' => L' = L ∧ Sl i' u 1 (wth s false l).length (strs (wth s false l)) := by
  refine FnS.state (K := fun u i' L' => ∃ O, SlO 9 u 1 (wth s false l).length (strs (wth s false l)) O ∧ L' = O ++ L) ?_ ?_
  rotate_left
  · rintro u i' L' w _ hs ⟨O, hO, rfl⟩
    obtain ⟨i2, h1, h2, h3⟩ := hO.freeze hs
    exact ⟨i2, L, h1, h2, rfl, h3⟩
  obtain ⟨ao, cap, rfl, -⟩ := id hv
  refine FnS.intro1 Try.func99 rfl Try.ntmps99 (by simp) Try.results99 ?_
  repeat' (first
    | refine CS.seq ?_
    | refine thenQ.normal ?_
    | refine CS.cond_true rfl ?_
    | refine CS.cond_false rfl ?_
    | refine CS.skip ?_
    | (refine CS.region (id := 0) ?_;
        refine RS.pv (PV.all tab_ok rfl) rfl ?_;
        refine RS.nil ?_)
    | (refine CS.region (id := 1) ?_;
        refine RS.pv (PV.all tab_ok rfl) rfl ?_;
        refine RS.nil ?_)
    | (refine CS.region (id := 2) ?_;
        refine RS.pv (PV.all tab_ok rfl) rfl ?_;
        refine RS.nil ?_)
    | (refine CS.region (id := 3) ?_;
        refine RS.pv (PV.all tab_ok rfl) rfl ?_;
        refine RS.nil ?_)
    | refine CS.ret ?_
    | refine thenQ.ret ?_
    | refine blkQ.ret ?_
    | refine retQ.ret ?_
    | refine CS.block ?_
    | refine CS.exit ?_
    | refine thenQ.exit ?_
    | refine blkQ.normal ?_
    | refine blkQ.here ?_
    | refine blkQ.past rfl ?_
    | refine retQ.normal ?_)
  refine CS.loop [0, 1, 5, 6, 7] (fun m vs i' L' => ∃ (k : Nat) (d : Bool) (out : List ByteArray) (O : SH) (oa : Option Addr) (oc : Nat), m = l.length - k ∧ k ≤ l.length ∧ out ++ wth s d (l.drop k) = wth s false l ∧ out.length ≤ 2 * k ∧ i.le i' ∧ SlO 9 (.slice oa out.length oc) 1 out.length (strs out) O ∧ vs = [.slice ao l.length cap, .string s, .slice oa out.length oc, .bool d, .int .i64 (k : Int)] ∧ L' = O ++ L) l.length ⟨0, false, [], [], none, 0, rfl, Nat.zero_le _, rfl, Nat.le_refl _, Imm.le.refl i, SlO.nil 9 1, rfl, rfl⟩ ?_
  rintro m g vs i' L' - ⟨k, d, out, O, oa, oc, rfl, hk, hw, hol, hi, hO, rfl, rfl⟩
  by_cases hlt : k < l.length
  · obtain ⟨b1, o1, c1, t1, z1, p1, e1, g1, h1⟩ := (hv.le hi).at hlt (by omega)
    cases e1
    obtain ⟨x, hx⟩ : ∃ x, l[k]? = some x := ⟨_, List.getElem?_eq_getElem hlt⟩
    have q1 := h1 0 (by omega)
    rw [strs_at, hx] at q1
    have hdr : l.drop k = x :: l.drop (k + 1) := by
      obtain ⟨h2, h3⟩ := List.getElem?_eq_some_iff.1 hx
      rw [List.drop_eq_getElem_cons h2, h3]
    rw [hdr] at hw
    simp only [wth] at hw
    rw [← List.append_assoc] at hw
    cases d with
    | true =>
      by_cases he : x = s
      · repeat' (first
          | refine CS.seq ?_
          | refine thenQ.normal ?_
          | refine CS.cond_true rfl ?_
          | refine CS.cond_false rfl ?_
          | refine CS.skip ?_
          | (refine CS.region (id := 4) ?_;
              refine RS.pv (PV.all tab_ok rfl) rfl ?_;
              refine RS.pv (PV.all tab_ok rfl) rfl ?_;
              (first | refine RS.pv (PV.lenS tab_ok rfl rfl) rfl ?_ | refine RS.pv (PV.lenT tab_ok rfl rfl) rfl ?_);
              (first | refine RS.pv (PV.lssT rfl rfl (by omega)) rfl ?_ | refine RS.pv (PV.lssF rfl rfl (by omega)) rfl ?_ | refine RS.ifLss rfl rfl rfl (fun h => ?_) (fun h => ?_));
              (all_goals refine RS.nil ?_))
          | (refine CS.region (id := 5) ?_;
              refine RS.pv (PV.all tab_ok rfl) rfl ?_;
              refine RS.pv (PV.add rfl rfl (by omega)) rfl ?_;
              refine RS.pv (PV.all tab_ok rfl) rfl ?_;
              refine RS.nil ?_)
          | (refine CS.region (id := 6) ?_;
              refine RS.pv (PV.all tab_ok rfl) rfl ?_;
              refine RS.pv (PV.all tab_ok rfl) rfl ?_;
              refine RS.pv (PV.all tab_ok rfl) rfl ?_;
              (first | refine RS.pv (PV.all tab_ok rfl) rfl ?_ | refine RS.skip rfl ?_);
              (first | refine RS.pv (PV.all tab_ok rfl) rfl ?_ | refine RS.skip rfl ?_);
              (first | refine RS.pv (PV.all tab_ok rfl) rfl ?_ | refine RS.skip rfl ?_);
              (first | refine RS.pv (PV.indexAddr tab_ok rfl rfl rfl (by omega)) rfl ?_ | refine RS.pv (PV.indexAddrA tab_ok rfl rfl rfl (by omega)) rfl ?_ | refine RS.skip rfl ?_);
              (first | refine RS.lv (LV.load tab_ok rfl (Has.own 0 rfl) rfl) rfl ?_ | refine RS.lv (LV.load tab_ok rfl (Has.own 1 rfl) rfl) rfl ?_ | refine RS.lv (LV.load tab_ok rfl (Has.own 2 rfl) rfl) rfl ?_ | refine RS.skip rfl ?_);
              (first | refine RS.pv (PV.leqT rfl rfl (by omega)) rfl ?_ | refine RS.pv (PV.leqF rfl rfl (by omega)) rfl ?_ | refine RS.ifLeq rfl rfl rfl (fun h => ?_) (fun h => ?_) | refine RS.skip rfl ?_);
              (all_goals refine RS.pv (PV.all tab_ok rfl) rfl ?_);
              (all_goals refine RS.nil ?_))
          | (refine CS.region (id := 8) ?_;
              refine RS.pv (PV.all tab_ok rfl) rfl ?_;
              refine RS.pv (PV.all tab_ok rfl) rfl ?_;
              (first | refine RS.pv (PV.indexAddr tab_ok rfl rfl rfl (by omega)) rfl ?_ | refine RS.pv (PV.indexAddrA tab_ok rfl rfl rfl (by omega)) rfl ?_);
              refine RS.lv (LV.load1 tab_ok rfl (Has.imm g1) rfl q1) rfl ?_;
              (all_goals refine RS.pv (PV.all tab_ok rfl) rfl ?_);
              (all_goals refine RS.pvN (PV.sneq rfl rfl) rfl (fun h => ?_) (fun h => absurd he h));
              (all_goals refine RS.nil ?_))
          | refine CS.ret ?_
          | refine thenQ.ret ?_
          | refine blkQ.ret ?_
          | refine retQ.ret ?_
          | refine CS.block ?_
          | refine CS.exit ?_
          | refine thenQ.exit ?_
          | refine blkQ.normal ?_
          | refine blkQ.here ?_
          | refine blkQ.past rfl ?_
          | refine retQ.normal ?_)
        refine ⟨l.length - (k + 1), by omega, k + 1, true, out, O, oa, oc, rfl, hlt, ?_, by omega, hi, hO, rfl, rfl⟩
        rw [← hw]; simp [wAt, he]
      · repeat' (first
          | refine CS.seq ?_
          | refine thenQ.normal ?_
          | refine CS.cond_true rfl ?_
          | refine CS.cond_false rfl ?_
          | refine CS.skip ?_
          | (refine CS.region (id := 4) ?_;
              refine RS.pv (PV.all tab_ok rfl) rfl ?_;
              refine RS.pv (PV.all tab_ok rfl) rfl ?_;
              (first | refine RS.pv (PV.lenS tab_ok rfl rfl) rfl ?_ | refine RS.pv (PV.lenT tab_ok rfl rfl) rfl ?_);
              (first | refine RS.pv (PV.lssT rfl rfl (by omega)) rfl ?_ | refine RS.pv (PV.lssF rfl rfl (by omega)) rfl ?_ | refine RS.ifLss rfl rfl rfl (fun h => ?_) (fun h => ?_));
              (all_goals refine RS.nil ?_))
          | (refine CS.region (id := 5) ?_;
              refine RS.pv (PV.all tab_ok rfl) rfl ?_;
              refine RS.pv (PV.add rfl rfl (by omega)) rfl ?_;
              refine RS.pv (PV.all tab_ok rfl) rfl ?_;
              refine RS.nil ?_)
          | (refine CS.region (id := 6) ?_;
              refine RS.pv (PV.all tab_ok rfl) rfl ?_;
              refine RS.pv (PV.all tab_ok rfl) rfl ?_;
              refine RS.pv (PV.all tab_ok rfl) rfl ?_;
              (first | refine RS.pv (PV.all tab_ok rfl) rfl ?_ | refine RS.skip rfl ?_);
              (first | refine RS.pv (PV.all tab_ok rfl) rfl ?_ | refine RS.skip rfl ?_);
              (first | refine RS.pv (PV.all tab_ok rfl) rfl ?_ | refine RS.skip rfl ?_);
              (first | refine RS.pv (PV.indexAddr tab_ok rfl rfl rfl (by omega)) rfl ?_ | refine RS.pv (PV.indexAddrA tab_ok rfl rfl rfl (by omega)) rfl ?_ | refine RS.skip rfl ?_);
              (first | refine RS.lv (LV.load tab_ok rfl (Has.own 0 rfl) rfl) rfl ?_ | refine RS.lv (LV.load tab_ok rfl (Has.own 1 rfl) rfl) rfl ?_ | refine RS.lv (LV.load tab_ok rfl (Has.own 2 rfl) rfl) rfl ?_ | refine RS.skip rfl ?_);
              (first | refine RS.pv (PV.leqT rfl rfl (by omega)) rfl ?_ | refine RS.pv (PV.leqF rfl rfl (by omega)) rfl ?_ | refine RS.ifLeq rfl rfl rfl (fun h => ?_) (fun h => ?_) | refine RS.skip rfl ?_);
              (all_goals refine RS.pv (PV.all tab_ok rfl) rfl ?_);
              (all_goals refine RS.nil ?_))
          | (refine CS.region (id := 8) ?_;
              refine RS.pv (PV.all tab_ok rfl) rfl ?_;
              refine RS.pv (PV.all tab_ok rfl) rfl ?_;
              (first | refine RS.pv (PV.indexAddr tab_ok rfl rfl rfl (by omega)) rfl ?_ | refine RS.pv (PV.indexAddrA tab_ok rfl rfl rfl (by omega)) rfl ?_);
              refine RS.lv (LV.load1 tab_ok rfl (Has.imm g1) rfl q1) rfl ?_;
              (all_goals refine RS.pv (PV.all tab_ok rfl) rfl ?_);
              (all_goals refine RS.pvN (PV.sneq rfl rfl) rfl (fun h => absurd h he) (fun h => ?_));
              (all_goals refine RS.nil ?_))
          | (refine CS.region (id := 9) ?_;
              refine RS.pv (PV.all tab_ok rfl) rfl ?_;
              refine RS.pv (PV.all tab_ok rfl) rfl ?_;
              refine RS.pv (PV.all tab_ok rfl) rfl ?_;
              (first | refine RS.pv (PV.indexAddr tab_ok rfl rfl rfl (by omega)) rfl ?_ | refine RS.pv (PV.indexAddrA tab_ok rfl rfl rfl (by omega)) rfl ?_);
              refine RS.lv (LV.load1 tab_ok rfl (Has.imm g1) rfl q1) rfl ?_;
              (all_goals refine RS.buildSliceF tab_ok 1 rfl rfl rfl (fun bb i2 hi2 hbs => ?_));
              (all_goals (refine RS.append tab_ok (sz := 1) (bytes := 16) (k := out.length) (m := 1) (xs := strs out) (news := [.string x]) rfl rfl rfl ⟨_, rfl, rfl⟩ ⟨_, rfl, rfl, rfl⟩ (by omega) hO rfl (hbs.rd _) (by intro c hc; simp at hc; subst hc; rfl) (by omega) (by omega) ?_; intro v' O' hO' hnil; obtain ⟨oa', oc', rfl⟩ := SlO.shape hO'));
              (all_goals refine RS.pv (PV.all tab_ok rfl) rfl ?_);
              (all_goals refine RS.nil ?_))
          | refine CS.ret ?_
          | refine thenQ.ret ?_
          | refine blkQ.ret ?_
          | refine retQ.ret ?_
          | refine CS.block ?_
          | refine CS.exit ?_
          | refine thenQ.exit ?_
          | refine blkQ.normal ?_
          | refine blkQ.here ?_
          | refine blkQ.past rfl ?_
          | refine retQ.normal ?_)
        refine ⟨l.length - (k + 1), by omega, k + 1, true, out ++ [x], O', oa', oc', rfl, hlt, ?_, by simp; omega, hi.trans hi2, by rw [strs_snoc']; simpa using hO', by rw [List.length_append]; rfl, rfl⟩
        rw [← hw]; simp [wAt, he]
    | false =>
      cases hle : leS s x with
      | false =>
        have he : x ≠ s := fun e => by subst e; rw [leS_iff.2 (.inr rfl)] at hle; cases hle
        repeat' (first
          | refine CS.seq ?_
          | refine thenQ.normal ?_
          | refine CS.cond_true rfl ?_
          | refine CS.cond_false rfl ?_
          | refine CS.skip ?_
          | (refine CS.region (id := 4) ?_;
              refine RS.pv (PV.all tab_ok rfl) rfl ?_;
              refine RS.pv (PV.all tab_ok rfl) rfl ?_;
              (first | refine RS.pv (PV.lenS tab_ok rfl rfl) rfl ?_ | refine RS.pv (PV.lenT tab_ok rfl rfl) rfl ?_);
              (first | refine RS.pv (PV.lssT rfl rfl (by omega)) rfl ?_ | refine RS.pv (PV.lssF rfl rfl (by omega)) rfl ?_ | refine RS.ifLss rfl rfl rfl (fun h => ?_) (fun h => ?_));
              (all_goals refine RS.nil ?_))
          | (refine CS.region (id := 5) ?_;
              refine RS.pv (PV.all tab_ok rfl) rfl ?_;
              refine RS.pv (PV.add rfl rfl (by omega)) rfl ?_;
              refine RS.pv (PV.all tab_ok rfl) rfl ?_;
              refine RS.nil ?_)
          | (refine CS.region (id := 6) ?_;
              refine RS.pv (PV.all tab_ok rfl) rfl ?_;
              refine RS.pv (PV.all tab_ok rfl) rfl ?_;
              refine RS.pv (PV.all tab_ok rfl) rfl ?_;
              (first | refine RS.pv (PV.all tab_ok rfl) rfl ?_ | refine RS.skip rfl ?_);
              (first | refine RS.pv (PV.all tab_ok rfl) rfl ?_ | refine RS.skip rfl ?_);
              (first | refine RS.pv (PV.all tab_ok rfl) rfl ?_ | refine RS.skip rfl ?_);
              (first | refine RS.pv (PV.indexAddr tab_ok rfl rfl rfl (by omega)) rfl ?_ | refine RS.pv (PV.indexAddrA tab_ok rfl rfl rfl (by omega)) rfl ?_ | refine RS.skip rfl ?_);
              refine RS.lv (LV.load1 tab_ok rfl (Has.imm g1) rfl q1) rfl ?_;
              (all_goals refine RS.pv (sleq rfl rfl hle) rfl ?_);
              (all_goals refine RS.pv (PV.all tab_ok rfl) rfl ?_);
              (all_goals refine RS.nil ?_))
          | (refine CS.region (id := 8) ?_;
              refine RS.pv (PV.all tab_ok rfl) rfl ?_;
              refine RS.pv (PV.all tab_ok rfl) rfl ?_;
              (first | refine RS.pv (PV.indexAddr tab_ok rfl rfl rfl (by omega)) rfl ?_ | refine RS.pv (PV.indexAddrA tab_ok rfl rfl rfl (by omega)) rfl ?_);
              refine RS.lv (LV.load1 tab_ok rfl (Has.imm g1) rfl q1) rfl ?_;
              (all_goals refine RS.pv (PV.all tab_ok rfl) rfl ?_);
              (all_goals refine RS.pvN (PV.sneq rfl rfl) rfl (fun h => absurd h he) (fun h => ?_));
              (all_goals refine RS.nil ?_))
          | (refine CS.region (id := 9) ?_;
              refine RS.pv (PV.all tab_ok rfl) rfl ?_;
              refine RS.pv (PV.all tab_ok rfl) rfl ?_;
              refine RS.pv (PV.all tab_ok rfl) rfl ?_;
              (first | refine RS.pv (PV.indexAddr tab_ok rfl rfl rfl (by omega)) rfl ?_ | refine RS.pv (PV.indexAddrA tab_ok rfl rfl rfl (by omega)) rfl ?_);
              refine RS.lv (LV.load1 tab_ok rfl (Has.imm g1) rfl q1) rfl ?_;
              (all_goals refine RS.buildSliceF tab_ok 1 rfl rfl rfl (fun bb i2 hi2 hbs => ?_));
              (all_goals (refine RS.append tab_ok (sz := 1) (bytes := 16) (k := out.length) (m := 1) (xs := strs out) (news := [.string x]) rfl rfl rfl ⟨_, rfl, rfl⟩ ⟨_, rfl, rfl, rfl⟩ (by omega) hO rfl (hbs.rd _) (by intro c hc; simp at hc; subst hc; rfl) (by omega) (by omega) ?_; intro v' O' hO' hnil; obtain ⟨oa', oc', rfl⟩ := SlO.shape hO'));
              (all_goals refine RS.pv (PV.all tab_ok rfl) rfl ?_);
              (all_goals refine RS.nil ?_))
          | refine CS.ret ?_
          | refine thenQ.ret ?_
          | refine blkQ.ret ?_
          | refine retQ.ret ?_
          | refine CS.block ?_
          | refine CS.exit ?_
          | refine thenQ.exit ?_
          | refine blkQ.normal ?_
          | refine blkQ.here ?_
          | refine blkQ.past rfl ?_
          | refine retQ.normal ?_)
        refine ⟨l.length - (k + 1), by omega, k + 1, false, out ++ [x], O', oa', oc', rfl, hlt, ?_, by simp; omega, hi.trans hi2, by rw [strs_snoc']; simpa using hO', by rw [List.length_append]; rfl, rfl⟩
        rw [← hw]; simp [wAt, he, hle]
      | true =>
        by_cases he : x = s
        · repeat' (first
            | refine CS.seq ?_
            | refine thenQ.normal ?_
            | refine CS.cond_true rfl ?_
            | refine CS.cond_false rfl ?_
            | refine CS.skip ?_
            | (refine CS.region (id := 4) ?_;
                refine RS.pv (PV.all tab_ok rfl) rfl ?_;
                refine RS.pv (PV.all tab_ok rfl) rfl ?_;
                (first | refine RS.pv (PV.lenS tab_ok rfl rfl) rfl ?_ | refine RS.pv (PV.lenT tab_ok rfl rfl) rfl ?_);
                (first | refine RS.pv (PV.lssT rfl rfl (by omega)) rfl ?_ | refine RS.pv (PV.lssF rfl rfl (by omega)) rfl ?_ | refine RS.ifLss rfl rfl rfl (fun h => ?_) (fun h => ?_));
                (all_goals refine RS.nil ?_))
            | (refine CS.region (id := 5) ?_;
                refine RS.pv (PV.all tab_ok rfl) rfl ?_;
                refine RS.pv (PV.add rfl rfl (by omega)) rfl ?_;
                refine RS.pv (PV.all tab_ok rfl) rfl ?_;
                refine RS.nil ?_)
            | (refine CS.region (id := 6) ?_;
                refine RS.pv (PV.all tab_ok rfl) rfl ?_;
                refine RS.pv (PV.all tab_ok rfl) rfl ?_;
                refine RS.pv (PV.all tab_ok rfl) rfl ?_;
                (first | refine RS.pv (PV.all tab_ok rfl) rfl ?_ | refine RS.skip rfl ?_);
                (first | refine RS.pv (PV.all tab_ok rfl) rfl ?_ | refine RS.skip rfl ?_);
                (first | refine RS.pv (PV.all tab_ok rfl) rfl ?_ | refine RS.skip rfl ?_);
                (first | refine RS.pv (PV.indexAddr tab_ok rfl rfl rfl (by omega)) rfl ?_ | refine RS.pv (PV.indexAddrA tab_ok rfl rfl rfl (by omega)) rfl ?_ | refine RS.skip rfl ?_);
                refine RS.lv (LV.load1 tab_ok rfl (Has.imm g1) rfl q1) rfl ?_;
                (all_goals refine RS.pv (sleq rfl rfl hle) rfl ?_);
                (all_goals refine RS.pv (PV.all tab_ok rfl) rfl ?_);
                (all_goals refine RS.nil ?_))
            | (refine CS.region (id := 7) ?_;
                refine RS.pv (PV.all tab_ok rfl) rfl ?_;
                refine RS.pv (PV.all tab_ok rfl) rfl ?_;
                refine RS.buildSliceF tab_ok 1 rfl rfl rfl (fun bb i2 hi2 hbs => ?_);
                (all_goals (refine RS.append tab_ok (sz := 1) (bytes := 16) (k := out.length) (m := 1) (xs := strs out) (news := [.string s]) rfl rfl rfl ⟨_, rfl, rfl⟩ ⟨_, rfl, rfl, rfl⟩ (by omega) hO rfl (hbs.rd _) (by intro c hc; simp at hc; subst hc; rfl) (by omega) (by omega) ?_; intro v' O' hO' hnil; obtain ⟨oa', oc', rfl⟩ := SlO.shape hO'));
                (all_goals refine RS.pv (PV.all tab_ok rfl) rfl ?_);
                (all_goals refine RS.pv (PV.all tab_ok rfl) rfl ?_);
                (all_goals refine RS.nil ?_))
            | (refine CS.region (id := 8) ?_;
                refine RS.pv (PV.all tab_ok rfl) rfl ?_;
                refine RS.pv (PV.all tab_ok rfl) rfl ?_;
                (first | refine RS.pv (PV.indexAddr tab_ok rfl rfl rfl (by omega)) rfl ?_ | refine RS.pv (PV.indexAddrA tab_ok rfl rfl rfl (by omega)) rfl ?_);
                refine RS.lv (LV.load1 tab_ok rfl (Has.imm (hi2.blk _ _ g1)) rfl q1) rfl ?_;
                (all_goals refine RS.pv (PV.all tab_ok rfl) rfl ?_);
                (all_goals refine RS.pvN (PV.sneq rfl rfl) rfl (fun h => ?_) (fun h => absurd he h));
                (all_goals refine RS.nil ?_))
            | refine CS.ret ?_
            | refine thenQ.ret ?_
            | refine blkQ.ret ?_
            | refine retQ.ret ?_
            | refine CS.block ?_
            | refine CS.exit ?_
            | refine thenQ.exit ?_
            | refine blkQ.normal ?_
            | refine blkQ.here ?_
            | refine blkQ.past rfl ?_
            | refine retQ.normal ?_)
          refine ⟨l.length - (k + 1), by omega, k + 1, true, out ++ [s], O', oa', oc', rfl, hlt, ?_, by simp; omega, hi.trans hi2, by rw [strs_snoc']; simpa using hO', by rw [List.length_append]; rfl, rfl⟩
          rw [← hw]; simp [wAt, he, hle] <;> (subst he; simp [hle])
        · repeat' (first
            | refine CS.seq ?_
            | refine thenQ.normal ?_
            | refine CS.cond_true rfl ?_
            | refine CS.cond_false rfl ?_
            | refine CS.skip ?_
            | (refine CS.region (id := 4) ?_;
                refine RS.pv (PV.all tab_ok rfl) rfl ?_;
                refine RS.pv (PV.all tab_ok rfl) rfl ?_;
                (first | refine RS.pv (PV.lenS tab_ok rfl rfl) rfl ?_ | refine RS.pv (PV.lenT tab_ok rfl rfl) rfl ?_);
                (first | refine RS.pv (PV.lssT rfl rfl (by omega)) rfl ?_ | refine RS.pv (PV.lssF rfl rfl (by omega)) rfl ?_ | refine RS.ifLss rfl rfl rfl (fun h => ?_) (fun h => ?_));
                (all_goals refine RS.nil ?_))
            | (refine CS.region (id := 5) ?_;
                refine RS.pv (PV.all tab_ok rfl) rfl ?_;
                refine RS.pv (PV.add rfl rfl (by omega)) rfl ?_;
                refine RS.pv (PV.all tab_ok rfl) rfl ?_;
                refine RS.nil ?_)
            | (refine CS.region (id := 6) ?_;
                refine RS.pv (PV.all tab_ok rfl) rfl ?_;
                refine RS.pv (PV.all tab_ok rfl) rfl ?_;
                refine RS.pv (PV.all tab_ok rfl) rfl ?_;
                (first | refine RS.pv (PV.all tab_ok rfl) rfl ?_ | refine RS.skip rfl ?_);
                (first | refine RS.pv (PV.all tab_ok rfl) rfl ?_ | refine RS.skip rfl ?_);
                (first | refine RS.pv (PV.all tab_ok rfl) rfl ?_ | refine RS.skip rfl ?_);
                (first | refine RS.pv (PV.indexAddr tab_ok rfl rfl rfl (by omega)) rfl ?_ | refine RS.pv (PV.indexAddrA tab_ok rfl rfl rfl (by omega)) rfl ?_ | refine RS.skip rfl ?_);
                refine RS.lv (LV.load1 tab_ok rfl (Has.imm g1) rfl q1) rfl ?_;
                (all_goals refine RS.pv (sleq rfl rfl hle) rfl ?_);
                (all_goals refine RS.pv (PV.all tab_ok rfl) rfl ?_);
                (all_goals refine RS.nil ?_))
            | (refine CS.region (id := 7) ?_;
                refine RS.pv (PV.all tab_ok rfl) rfl ?_;
                refine RS.pv (PV.all tab_ok rfl) rfl ?_;
                refine RS.buildSliceF tab_ok 1 rfl rfl rfl (fun bb i2 hi2 hbs => ?_);
                (all_goals (refine RS.append tab_ok (sz := 1) (bytes := 16) (k := out.length) (m := 1) (xs := strs out) (news := [.string s]) rfl rfl rfl ⟨_, rfl, rfl⟩ ⟨_, rfl, rfl, rfl⟩ (by omega) hO rfl (hbs.rd _) (by intro c hc; simp at hc; subst hc; rfl) (by omega) (by omega) ?_; intro v1 O1 hO1 hnil; obtain ⟨oa1, oc1, rfl⟩ := SlO.shape hO1));
                (all_goals refine RS.pv (PV.all tab_ok rfl) rfl ?_);
                (all_goals refine RS.pv (PV.all tab_ok rfl) rfl ?_);
                (all_goals refine RS.nil ?_))
            | (refine CS.region (id := 8) ?_;
                refine RS.pv (PV.all tab_ok rfl) rfl ?_;
                refine RS.pv (PV.all tab_ok rfl) rfl ?_;
                (first | refine RS.pv (PV.indexAddr tab_ok rfl rfl rfl (by omega)) rfl ?_ | refine RS.pv (PV.indexAddrA tab_ok rfl rfl rfl (by omega)) rfl ?_);
                refine RS.lv (LV.load1 tab_ok rfl (Has.imm (hi2.blk _ _ g1)) rfl q1) rfl ?_;
                (all_goals refine RS.pv (PV.all tab_ok rfl) rfl ?_);
                (all_goals refine RS.pvN (PV.sneq rfl rfl) rfl (fun h => absurd h he) (fun h => ?_));
                (all_goals refine RS.nil ?_))
            | (refine CS.region (id := 9) ?_;
                refine RS.pv (PV.all tab_ok rfl) rfl ?_;
                refine RS.pv (PV.all tab_ok rfl) rfl ?_;
                refine RS.pv (PV.all tab_ok rfl) rfl ?_;
                (first | refine RS.pv (PV.indexAddr tab_ok rfl rfl rfl (by omega)) rfl ?_ | refine RS.pv (PV.indexAddrA tab_ok rfl rfl rfl (by omega)) rfl ?_);
                refine RS.lv (LV.load1 tab_ok rfl (Has.imm (hi2.blk _ _ g1)) rfl q1) rfl ?_;
                (all_goals refine RS.buildSliceF tab_ok 1 rfl rfl rfl (fun bb i3 hi3 hbs => ?_));
                (all_goals (refine RS.append tab_ok (sz := 1) (bytes := 16) (k := out.length + 1) (m := 1) (xs := strs out ++ [Value.string s]) (news := [Value.string x]) rfl rfl rfl ⟨_, rfl, rfl⟩ ⟨_, rfl, rfl, rfl⟩ (by omega) hO1 rfl (hbs.rd _) (by intro c hc; simp at hc; subst hc; rfl) (by omega) (by omega) ?_; intro v' O' hO' hnil; obtain ⟨oa', oc', rfl⟩ := SlO.shape hO'));
                (all_goals refine RS.pv (PV.all tab_ok rfl) rfl ?_);
                (all_goals refine RS.nil ?_))
            | refine CS.ret ?_
            | refine thenQ.ret ?_
            | refine blkQ.ret ?_
            | refine retQ.ret ?_
            | refine CS.block ?_
            | refine CS.exit ?_
            | refine thenQ.exit ?_
            | refine blkQ.normal ?_
            | refine blkQ.here ?_
            | refine blkQ.past rfl ?_
            | refine retQ.normal ?_)
          refine ⟨l.length - (k + 1), by omega, k + 1, true, out ++ [s] ++ [x], O', oa', oc', rfl, hlt, ?_, by simp; omega, (hi.trans hi2).trans hi3, by rw [strs_snoc', strs_snoc']; simpa using hO', by rw [List.length_append, List.length_append]; rfl, rfl⟩
          rw [← hw]; simp [wAt, he, hle]
  · have : k = l.length := by omega
    subst this
    rw [List.drop_length] at hw
    cases d with
    | true =>
      repeat' (first
        | refine CS.seq ?_
        | refine thenQ.normal ?_
        | refine CS.cond_true rfl ?_
        | refine CS.cond_false rfl ?_
        | refine CS.skip ?_
        | (refine CS.region (id := 4) ?_;
            refine RS.pv (PV.all tab_ok rfl) rfl ?_;
            refine RS.pv (PV.all tab_ok rfl) rfl ?_;
            (first | refine RS.pv (PV.lenS tab_ok rfl rfl) rfl ?_ | refine RS.pv (PV.lenT tab_ok rfl rfl) rfl ?_);
            (first | refine RS.pv (PV.lssT rfl rfl (by omega)) rfl ?_ | refine RS.pv (PV.lssF rfl rfl (by omega)) rfl ?_ | refine RS.ifLss rfl rfl rfl (fun h => ?_) (fun h => ?_));
            (all_goals refine RS.nil ?_))
        | (refine CS.region (id := 10) ?_;
            refine RS.pv (PV.all tab_ok rfl) rfl ?_;
            refine RS.pv (PV.all tab_ok rfl) rfl ?_;
            refine RS.nil ?_)
        | (refine CS.region (id := 12) ?_;
            refine RS.pv (PV.all tab_ok rfl) rfl ?_;
            refine RS.pv (PV.all tab_ok rfl) rfl ?_;
            refine RS.nil ?_)
        | refine CS.ret ?_
        | refine thenQ.ret ?_
        | refine blkQ.ret ?_
        | refine retQ.ret ?_
        | refine CS.block ?_
        | refine CS.exit ?_
        | refine thenQ.exit ?_
        | refine blkQ.normal ?_
        | refine blkQ.here ?_
        | refine blkQ.past rfl ?_
        | refine retQ.normal ?_)
      refine ⟨O, ?_, rfl⟩
      have e : out = wth s false l := by rw [← hw]; simp [wth]
      rw [← e]; exact hO
    | false =>
      repeat' (first
        | refine CS.seq ?_
        | refine thenQ.normal ?_
        | refine CS.cond_true rfl ?_
        | refine CS.cond_false rfl ?_
        | refine CS.skip ?_
        | (refine CS.region (id := 4) ?_;
            refine RS.pv (PV.all tab_ok rfl) rfl ?_;
            refine RS.pv (PV.all tab_ok rfl) rfl ?_;
            (first | refine RS.pv (PV.lenS tab_ok rfl rfl) rfl ?_ | refine RS.pv (PV.lenT tab_ok rfl rfl) rfl ?_);
            (first | refine RS.pv (PV.lssT rfl rfl (by omega)) rfl ?_ | refine RS.pv (PV.lssF rfl rfl (by omega)) rfl ?_ | refine RS.ifLss rfl rfl rfl (fun h => ?_) (fun h => ?_));
            (all_goals refine RS.nil ?_))
        | (refine CS.region (id := 10) ?_;
            refine RS.pv (PV.all tab_ok rfl) rfl ?_;
            refine RS.pv (PV.all tab_ok rfl) rfl ?_;
            refine RS.nil ?_)
        | (refine CS.region (id := 11) ?_;
            refine RS.pv (PV.all tab_ok rfl) rfl ?_;
            refine RS.pv (PV.all tab_ok rfl) rfl ?_;
            refine RS.buildSliceF tab_ok 1 rfl rfl rfl (fun bb i2 hi2 hbs => ?_);
            (all_goals (refine RS.append tab_ok (sz := 1) (bytes := 16) (k := out.length) (m := 1) (xs := strs out) (news := [.string s]) rfl rfl rfl ⟨_, rfl, rfl⟩ ⟨_, rfl, rfl, rfl⟩ (by omega) hO rfl (hbs.rd _) (by intro c hc; simp at hc; subst hc; rfl) (by omega) (by omega) ?_; intro v' O' hO' hnil; obtain ⟨oa', oc', rfl⟩ := SlO.shape hO'));
            (all_goals refine RS.pv (PV.all tab_ok rfl) rfl ?_);
            (all_goals refine RS.nil ?_))
        | (refine CS.region (id := 12) ?_;
            refine RS.pv (PV.all tab_ok rfl) rfl ?_;
            refine RS.pv (PV.all tab_ok rfl) rfl ?_;
            refine RS.nil ?_)
        | refine CS.ret ?_
        | refine thenQ.ret ?_
        | refine blkQ.ret ?_
        | refine retQ.ret ?_
        | refine CS.block ?_
        | refine CS.exit ?_
        | refine thenQ.exit ?_
        | refine blkQ.normal ?_
        | refine blkQ.here ?_
        | refine blkQ.past rfl ?_
        | refine retQ.normal ?_)
      refine ⟨O', ?_, rfl⟩
      have e : out ++ [s] = wth s false l := by rw [← hw]; simp [wth]
      rw [← e, strs_snoc', List.length_append]
      exact hO'
/-! ### place -/
def plv (s : ByteArray) : List ByteArray → Int → Int
  | [], _ => -1
  | x :: xs, k => if x = s then k else plv s xs (k + 1)
theorem place_80 (v : Value) (l : List ByteArray) (s : ByteArray) (i : Imm) (L : SH) (hv : Sl i v 1 l.length (strs l)) (hn : l.length ≤ 1000000000) :
    FnS Try.prog 80 [v, .string s] i L fun u i' L' => u = .int .i64 (plv s l 0) ∧ L' = L := by
  obtain ⟨ao, cap, rfl, -⟩ := id hv
  refine FnS.intro1 Try.func80 rfl Try.ntmps80 (by simp) Try.results80 ?_
  repeat' (first
    | refine CS.seq ?_
    | refine thenQ.normal ?_
    | refine CS.cond_true rfl ?_
    | refine CS.cond_false rfl ?_
    | refine CS.skip ?_
    | (refine CS.region (id := 0) ?_;
        refine RS.pv (PV.all tab_ok rfl) rfl ?_;
        refine RS.nil ?_)
    | (refine CS.region (id := 1) ?_;
        refine RS.pv (PV.all tab_ok rfl) rfl ?_;
        refine RS.nil ?_)
    | refine CS.ret ?_
    | refine thenQ.ret ?_
    | refine blkQ.ret ?_
    | refine retQ.ret ?_
    | refine CS.block ?_
    | refine CS.exit ?_
    | refine thenQ.exit ?_
    | refine blkQ.normal ?_
    | refine blkQ.here ?_
    | refine blkQ.past rfl ?_
    | refine retQ.normal ?_)
  refine CS.loop [0, 1, 5] (fun m vs i' L' => ∃ k : Nat, m = l.length - k ∧ k ≤ l.length ∧ plv s (l.drop k) k = plv s l 0 ∧ vs = [.slice ao l.length cap, .string s, .int .i64 (k : Int)] ∧ i = i' ∧ L = L') l.length ⟨0, rfl, Nat.zero_le _, rfl, rfl, rfl, rfl⟩ ?_
  rintro m g vs i' L' hi ⟨k, rfl, hk, hp, rfl, rfl, rfl⟩
  by_cases hlt : k < l.length
  · obtain ⟨b1, o1, c1, t1, z1, p1, e1, g1, h1⟩ := hv.at hlt (by omega)
    cases e1
    obtain ⟨x, hx⟩ : ∃ x, l[k]? = some x := ⟨_, List.getElem?_eq_getElem hlt⟩
    have q1 := h1 0 (by omega)
    rw [strs_at, hx] at q1
    have hdr : l.drop k = x :: l.drop (k + 1) := by
      obtain ⟨h2, h3⟩ := List.getElem?_eq_some_iff.1 hx
      rw [List.drop_eq_getElem_cons h2, h3]
    rw [hdr, plv] at hp
    repeat' (first
      | refine CS.seq ?_
      | refine thenQ.normal ?_
      | refine CS.cond_true rfl ?_
      | refine CS.cond_false rfl ?_
      | refine CS.skip ?_
      | (refine CS.region (id := 2) ?_;
          refine RS.pv (PV.all tab_ok rfl) rfl ?_;
          refine RS.pv (PV.all tab_ok rfl) rfl ?_;
          (first | refine RS.pv (PV.lenS tab_ok rfl rfl) rfl ?_ | refine RS.pv (PV.lenT tab_ok rfl rfl) rfl ?_);
          (first | refine RS.pv (PV.lssT rfl rfl (by omega)) rfl ?_ | refine RS.pv (PV.lssF rfl rfl (by omega)) rfl ?_ | refine RS.ifLss rfl rfl rfl (fun h => ?_) (fun h => ?_));
          (all_goals refine RS.nil ?_))
      | (refine CS.region (id := 3) ?_;
          refine RS.pv (PV.all tab_ok rfl) rfl ?_;
          refine RS.pv (PV.add rfl rfl (by omega)) rfl ?_;
          refine RS.pv (PV.all tab_ok rfl) rfl ?_;
          refine RS.nil ?_)
      | (refine CS.region (id := 4) ?_;
          refine RS.pv (PV.all tab_ok rfl) rfl ?_;
          refine RS.pv (PV.all tab_ok rfl) rfl ?_;
          (first | refine RS.pv (PV.indexAddr tab_ok rfl rfl rfl (by omega)) rfl ?_ | refine RS.pv (PV.indexAddrA tab_ok rfl rfl rfl (by omega)) rfl ?_);
          refine RS.lv (LV.load1 tab_ok rfl (Has.imm g1) rfl q1) rfl ?_;
          (all_goals refine RS.pv (PV.all tab_ok rfl) rfl ?_);
          (all_goals refine RS.pvB (PV.seql rfl rfl) rfl (fun h => ?_) (fun h => ?_));
          (all_goals refine RS.nil ?_))
      | (refine CS.region (id := 5) ?_;
          refine RS.pv (PV.all tab_ok rfl) rfl ?_;
          refine RS.pv (PV.all tab_ok rfl) rfl ?_;
          refine RS.nil ?_)
      | refine CS.ret ?_
      | refine thenQ.ret ?_
      | refine blkQ.ret ?_
      | refine retQ.ret ?_
      | refine CS.block ?_
      | refine CS.exit ?_
      | refine thenQ.exit ?_
      | refine blkQ.normal ?_
      | refine blkQ.here ?_
      | refine blkQ.past rfl ?_
      | refine retQ.normal ?_)
    · rw [if_pos h] at hp
      exact ⟨by rw [← hp]; rfl, rfl⟩
    · rw [if_neg h] at hp
      exact ⟨l.length - (k + 1), by omega, k + 1, rfl, hlt, by rw [← hp]; rfl, rfl, rfl, rfl⟩
  · have : k = l.length := by omega
    subst this
    rw [List.drop_length, plv] at hp
    repeat' (first
      | refine CS.seq ?_
      | refine thenQ.normal ?_
      | refine CS.cond_true rfl ?_
      | refine CS.cond_false rfl ?_
      | refine CS.skip ?_
      | (refine CS.region (id := 2) ?_;
          refine RS.pv (PV.all tab_ok rfl) rfl ?_;
          refine RS.pv (PV.all tab_ok rfl) rfl ?_;
          (first | refine RS.pv (PV.lenS tab_ok rfl rfl) rfl ?_ | refine RS.pv (PV.lenT tab_ok rfl rfl) rfl ?_);
          (first | refine RS.pv (PV.lssT rfl rfl (by omega)) rfl ?_ | refine RS.pv (PV.lssF rfl rfl (by omega)) rfl ?_ | refine RS.ifLss rfl rfl rfl (fun h => ?_) (fun h => ?_));
          (all_goals refine RS.nil ?_))
      | (refine CS.region (id := 6) ?_;
          refine RS.pv (PV.all tab_ok rfl) rfl ?_;
          refine RS.nil ?_)
      | refine CS.ret ?_
      | refine thenQ.ret ?_
      | refine blkQ.ret ?_
      | refine retQ.ret ?_
      | refine CS.block ?_
      | refine CS.exit ?_
      | refine thenQ.exit ?_
      | refine blkQ.normal ?_
      | refine blkQ.here ?_
      | refine blkQ.past rfl ?_
      | refine retQ.normal ?_)
    exact ⟨by rw [← hp]; rfl, rfl⟩
end Go.Proofs.Ytmcajldlcomegaa
