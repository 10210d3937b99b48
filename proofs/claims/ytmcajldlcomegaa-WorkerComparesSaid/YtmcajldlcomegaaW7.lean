/- Contracts: the known example. -/
import Derived.Test.YtmcajldlcomegaaW6
namespace Go.Proofs.Ytmcajldlcomegaa
open Go Go.Eng

theorem PoolSt.give {i i' : Imm} {js js' : List (Option JobP)} {nw : Nat} {index ticks e : Int} {r : Rec} (h : PoolSt i js nw) (hi : i.le i') (hok : r.ok) (hg : GiveTo js nw index ticks r i' e js') : PoolSt i' js' nw := by
  cases hg with
  | low _ => exact h.le hi
  | taken _ _ => exact h.le hi
  | full _ _ _ => exact h.le hi
  | ok k x h1 h2 h3 h4 h5 h6 h7 =>
    have h' := h.le hi
    refine ⟨by rw [List.length_set]; exact h.len, h.nwpos, h.nwle, fun j hj hj8 => ?_, fun y hy => ?_⟩
    · rw [List.getElem?_set, if_neg (by omega)]; exact h.idle j hj hj8
    · rcases List.mem_or_eq_of_mem_set hy with hy | hy
      · exact h'.job y hy
      · cases hy
        rw [h6] at h7 ⊢
        exact ⟨h7, hok, by simp only; omega, by simp only; omega⟩
theorem JobV.tick {i : Imm} {jc : List Value} {j : JobD} (n : Int) (h : JobV i jc j) : JobV i (jc.set 1 (.int .i64 n)) ⟨j.index, n, j.rcd⟩ := by
  obtain ⟨rc, rfl, hr⟩ := h
  exact ⟨rc, rfl, hr⟩
theorem PoolSt.tick {i : Imm} {js : List (Option JobP)} {nw : Nat} {t : Int} (h : PoolSt i js nw) (ht : 0 ≤ t) : PoolSt i (js.map (tick1 t)) nw := by
  refine ⟨by rw [List.length_map]; exact h.len, h.nwpos, h.nwle, fun j hj hj8 => ?_, fun y hy => ?_⟩
  · rw [List.getElem?_map, h.idle j hj hj8]; rfl
  · obtain ⟨o, ho, he⟩ := List.mem_map.1 hy
    cases o with
    | none => cases he
    | some x =>
      rw [show tick1 t (some x) = if x.jd.left ≤ t then none else some ⟨x.b, x.jc.set 1 (.int .i64 (x.jd.left - t)), ⟨x.jd.index, x.jd.left - t, x.jd.rcd⟩⟩ from rfl] at he
      by_cases hx : x.jd.left ≤ t
      · rw [if_pos hx] at he; cases he
      · rw [if_neg hx] at he
        cases he
        obtain ⟨h1, h2, h3, h4⟩ := h.job x ho
        exact ⟨h1.tick _, h2, by simp only; omega, by simp only; omega⟩

/-- a record with a path alone -/
def rz (p : ByteArray) : Rec := ⟨p, 0, [], [], [], [], [], ByteArray.empty, 0, ByteArray.empty, ByteArray.empty, 0⟩
def rzc (p : ByteArray) : List Value := [.string p, .int .i64 0, .slice none 0 0, .slice none 0 0, .slice none 0 0, .slice none 0 0, .slice none 0 0, .string ByteArray.empty, .int .i64 0, .string ByteArray.empty, .string ByteArray.empty, .int .i64 0]
theorem rz_ok (p : ByteArray) : (rz p).ok := ⟨Nat.zero_le _, Nat.zero_le _, Nat.zero_le _, Nat.zero_le _, Nat.zero_le _⟩
theorem rz_v (i : Imm) (p : ByteArray) : RecV i (rzc p) (rz p) := ⟨_, _, _, _, _, rfl, Sl.nil i 2, Sl.nil i 1, Sl.nil i 1, Sl.nil i 1, Sl.nil i 1⟩


def J1 (x : JobP) : List (Option JobP) := [some x, none, none, none, none, none, none, none]
def J2 (x y : JobP) : List (Option JobP) := [some x, some y, none, none, none, none, none, none]
theorem give1 {r : Rec} {i : Imm} {e : Int} {js' : List (Option JobP)} (h : GiveTo (List.replicate 8 none) 2 5 3 r i e js') : e = 0 ∧ ∃ b jc, js' = J1 ⟨b, jc, ⟨5, 3, r⟩⟩ := by
  cases h with
  | low h => exact absurd h (by decide)
  | taken _ h => exact absurd h (by decide)
  | full _ _ h => exact absurd h (by decide)
  | ok k x _ _ h3 _ _ h6 _ =>
    have : k = 0 := by
      have h0 : fidx Option.isNone ((List.replicate 8 (none : Option JobP)).take 2) = 0 := rfl
      omega
    subst this
    obtain ⟨b, jc, jd⟩ := x
    simp only at h6
    subst h6
    exact ⟨rfl, b, jc, rfl⟩
theorem give2 {r q : Rec} {i : Imm} {e a : Int} {b : Nat} {jc : List Value} {js' : List (Option JobP)} (h : GiveTo (J1 ⟨b, jc, ⟨5, a, q⟩⟩) 2 7 0 r i e js') : e = 0 ∧ ∃ c kc, js' = J2 ⟨b, jc, ⟨5, a, q⟩⟩ ⟨c, kc, ⟨7, 1, r⟩⟩ := by
  have h1 : fidx (isIdx 7) ((J1 ⟨b, jc, ⟨5, a, q⟩⟩).take 2) = -1 := rfl
  have h0 : fidx Option.isNone ((J1 ⟨b, jc, ⟨5, a, q⟩⟩).take 2) = 1 := rfl
  cases h with
  | low h => exact absurd h (by decide)
  | taken _ h => omega
  | full _ _ h => omega
  | ok k x _ _ h3 _ _ h6 _ =>
    have : k = 1 := by omega
    subst this
    obtain ⟨c, kc, jd⟩ := x
    simp only at h6
    subst h6
    exact ⟨rfl, c, kc, rfl⟩
theorem give3 {r q q' : Rec} {i : Imm} {e a a' : Int} {b c : Nat} {jc kc : List Value} {js' : List (Option JobP)} (h : GiveTo (J2 ⟨b, jc, ⟨5, a, q⟩⟩ ⟨c, kc, ⟨7, a', q'⟩⟩) 2 8 1 r i e js') : e = 293 ∧ js' = J2 ⟨b, jc, ⟨5, a, q⟩⟩ ⟨c, kc, ⟨7, a', q'⟩⟩ := by
  have h1 : fidx (isIdx 8) ((J2 ⟨b, jc, ⟨5, a, q⟩⟩ ⟨c, kc, ⟨7, a', q'⟩⟩).take 2) = -1 := rfl
  have h0 : fidx Option.isNone ((J2 ⟨b, jc, ⟨5, a, q⟩⟩ ⟨c, kc, ⟨7, a', q'⟩⟩).take 2) = -1 := rfl
  cases h with
  | low h => exact absurd h (by decide)
  | taken _ h => omega
  | full _ _ h => exact ⟨rfl, rfl⟩
  | ok k x _ _ h3 _ _ h6 _ => omega
theorem give4 {r q q' : Rec} {i : Imm} {e a a' : Int} {b c : Nat} {jc kc : List Value} {js' : List (Option JobP)} (h : GiveTo (J2 ⟨b, jc, ⟨5, a, q⟩⟩ ⟨c, kc, ⟨7, a', q'⟩⟩) 2 5 1 r i e js') : e = 292 ∧ js' = J2 ⟨b, jc, ⟨5, a, q⟩⟩ ⟨c, kc, ⟨7, a', q'⟩⟩ := by
  have h1 : fidx (isIdx 5) ((J2 ⟨b, jc, ⟨5, a, q⟩⟩ ⟨c, kc, ⟨7, a', q'⟩⟩).take 2) = 0 := rfl
  cases h with
  | low h => exact absurd h (by decide)
  | taken _ h => exact ⟨rfl, rfl⟩
  | full _ h _ => omega
  | ok k x _ h _ _ _ _ _ => omega
theorem known_s (i : Imm) (R : SH) : FnS Try.prog 18 [] i R fun v _ L' => v = .bool true ∧ L' = R := by
  refine FnS.state (K := fun v i' L' => ∃ M, v = .bool true ∧ L' = M ++ R) ?_ ?_
  rotate_left
  · rintro v i' L' w _ hs ⟨M, hv, rfl⟩
    exact ⟨i', R, Imm.le.refl i', hs.dropL, hv, rfl⟩
  refine FnS.intro1 Try.func18 rfl Try.ntmps18 (by simp) Try.results18 ?_
  repeat' (first
    | refine CS.seq ?_
    | refine thenQ.normal ?_
    | refine CS.cond_true rfl ?_
    | refine CS.cond_false rfl ?_
    | refine CS.skip ?_
    | (refine CS.region (id := 0) ?_;
        refine RS.pv (PV.all tab_ok rfl) rfl ?_;
        refine RS.nil ?_)
    | (refine CS.region (id := 1) ?_;
        (refine RS.call (New_s 2 _ _ (by omega) (by omega)) rfl (by kernel_rfl) rfl ?_; rintro v i1 L1 hi1 ⟨p, rfl, rfl, rfl⟩);
        (all_goals refine RS.pv (PV.all tab_ok rfl) rfl ?_);
        (all_goals refine RS.pv (PV.all tab_ok rfl) rfl ?_);
        (all_goals refine RS.pv (PV.all tab_ok rfl) rfl ?_);
        (all_goals refine RS.pv (PV.all tab_ok rfl) rfl ?_);
        (all_goals refine RS.pv (PV.all tab_ok rfl) rfl ?_);
        (all_goals refine RS.nil ?_))
    | refine CS.ret ?_
    | refine thenQ.ret ?_
    | refine blkQ.ret ?_
    | refine retQ.ret ?_
    | refine CS.block ?_
    | refine CS.exit ?_
    | refine thenQ.exit ?_
    | refine blkQ.normal ?_
    | refine blkQ.here ?_
    | refine blkQ.past rfl ?_
    | refine retQ.normal ?_)
  have hp0 := PoolSt.new i1 2 (by omega) (by omega)
  refine CS.region (id := 2) ?_
  refine RS.pv (PV.all tab_ok rfl) rfl ?_
  (first | refine RS.pv (PV.all tab_ok rfl) rfl ?_ | refine RS.pv (PV.neqT rfl rfl (by omega)) rfl ?_ | refine RS.pv (PV.neqF rfl rfl (by omega)) rfl ?_ | refine RS.ifNeq rfl rfl rfl (fun h => ?_) (fun h => ?_) | refine RS.ifSneq rfl rfl rfl (fun h => ?_) (fun h => ?_))
  (all_goals refine RS.pv (PV.all tab_ok rfl) rfl ?_)
  (all_goals (first | refine RS.pv (PV.all tab_ok rfl) rfl ?_ | refine RS.skip rfl ?_))
  (all_goals (first | refine RS.pv (PV.all tab_ok rfl) rfl ?_ | refine RS.pv (PV.eqlT rfl rfl (by omega)) rfl ?_ | refine RS.pv (PV.eqlF rfl rfl (by omega)) rfl ?_ | refine RS.ifEql rfl rfl rfl (fun h => ?_) (fun h => ?_) | refine RS.ifSeql rfl rfl rfl (fun h => ?_) (fun h => ?_) | refine RS.skip rfl ?_))
  (all_goals refine RS.pv (PV.all tab_ok rfl) rfl ?_)
  (all_goals refine RS.pv (PV.all tab_ok rfl) rfl ?_)
  (all_goals (first | refine RS.pv (PV.all tab_ok rfl) rfl ?_ | refine RS.skip rfl ?_))
  (all_goals (first | refine RS.pv (PV.all tab_ok rfl) rfl ?_ | refine RS.skip rfl ?_))
  refine RS.call (Give_s p 2 _ 5 3 (rzc ⟨#[47, 114]⟩) (rz ⟨#[47, 114]⟩) _ _ hp0 (rz_v _ _) (rz_ok _)) rfl (by kernel_rfl) rfl ?_
  rintro v i2 L2 hi2 ⟨e, js1, rfl, hg, rfl⟩
  have hp1 := hp0.give hi2 (rz_ok _) hg
  obtain ⟨rfl, xb, xc, rfl⟩ := give1 hg
  (first | refine RS.pv (PV.all tab_ok rfl) rfl ?_ | refine RS.pv (PV.neqT rfl rfl (by omega)) rfl ?_ | refine RS.pv (PV.neqF rfl rfl (by omega)) rfl ?_ | refine RS.ifNeq rfl rfl rfl (fun h => ?_) (fun h => ?_) | refine RS.ifSneq rfl rfl rfl (fun h => ?_) (fun h => ?_) | refine RS.skip rfl ?_)
  (all_goals refine RS.pv (PV.all tab_ok rfl) rfl ?_)
  (all_goals refine RS.pv (PV.all tab_ok rfl) rfl ?_)
  (all_goals (first | refine RS.pv (PV.all tab_ok rfl) rfl ?_ | refine RS.skip rfl ?_))
  (all_goals (first | refine RS.pv (PV.all tab_ok rfl) rfl ?_ | refine RS.skip rfl ?_))
  refine RS.call (Give_s p 2 _ 7 0 (rzc ⟨#[47, 115]⟩) (rz ⟨#[47, 115]⟩) _ _ hp1 (rz_v _ _) (rz_ok _)) rfl (by kernel_rfl) rfl ?_
  rintro v i3 L3 hi3 ⟨e, js1, rfl, hg, rfl⟩
  have hp2 := hp1.give hi3 (rz_ok _) hg
  obtain ⟨rfl, yb, yc, rfl⟩ := give2 hg
  (first | refine RS.pv (PV.all tab_ok rfl) rfl ?_ | refine RS.pv (PV.neqT rfl rfl (by omega)) rfl ?_ | refine RS.pv (PV.neqF rfl rfl (by omega)) rfl ?_ | refine RS.ifNeq rfl rfl rfl (fun h => ?_) (fun h => ?_) | refine RS.ifSneq rfl rfl rfl (fun h => ?_) (fun h => ?_) | refine RS.skip rfl ?_)
  (all_goals refine RS.pv (PV.all tab_ok rfl) rfl ?_)
  (all_goals refine RS.nil ?_)
  refine thenQ.normal ?_
  refine CS.cond_false rfl ?_
  refine CS.skip ?_
  refine thenQ.normal ?_
  refine CS.seq ?_
  refine CS.region (id := 4) ?_
  refine RS.pv (PV.all tab_ok rfl) rfl ?_
  refine RS.pv (PV.all tab_ok rfl) rfl ?_
  refine RS.call (Give_s p 2 _ 8 1 (rzc ByteArray.empty) (rz ByteArray.empty) _ _ hp2 (rz_v _ _) (rz_ok _)) rfl (by kernel_rfl) rfl ?_
  rintro v i4 L4 hi4 ⟨e, js1, rfl, hg, rfl⟩
  have hp3 := hp2.give hi4 (rz_ok _) hg
  obtain ⟨rfl, rfl⟩ := give3 hg
  refine RS.pv (PV.all tab_ok rfl) rfl ?_
  refine RS.pv (PV.all tab_ok rfl) rfl ?_
  refine RS.call (Give_s p 2 _ 5 1 (rzc ByteArray.empty) (rz ByteArray.empty) _ _ hp3 (rz_v _ _) (rz_ok _)) rfl (by kernel_rfl) rfl ?_
  rintro v i5 L5 hi5 ⟨e, js1, rfl, hg, rfl⟩
  have hp4 := hp3.give hi5 (rz_ok _) hg
  obtain ⟨rfl, rfl⟩ := give4 hg
  refine RS.pv (PV.all tab_ok rfl) rfl ?_
  refine RS.pv (PV.all tab_ok rfl) rfl ?_
  refine RS.nil ?_
  refine thenQ.normal ?_
  obtain ⟨⟨rx, hx, hrx⟩, _⟩ := hp4.job _ (.head _)
  obtain ⟨⟨ry, hy, hry⟩, _⟩ := hp4.job _ (.tail _ (.head _))
  simp only at hx hy hrx hry
  obtain ⟨rx, rfl⟩ : ∃ rest, rx = .string ⟨#[47, 114]⟩ :: rest := by
    obtain ⟨_, _, _, _, _, h, _⟩ := hrx
    exact ⟨_, h⟩
  subst hx
  subst hy
  refine CS.seq ?_
  refine CS.region (id := 5) ?_
  refine RS.pv (PV.all tab_ok rfl) rfl ?_
  refine RS.call (Tick_s p 2 _ 1 (by omega) _ R hp4 (Nat.le_refl 1)) rfl (by kernel_rfl) rfl ?_
  rintro v i6 L6 hi6 ⟨sa, Oa, rfl, ha, rfl, rfl⟩
  have ha' : SlO 41 sa 14 1 ((.int .i64 7 :: .int .i64 0 :: ry) ++ []) Oa := ha
  obtain ⟨_, ⟨_, h0, _⟩ | ⟨ga, ca, spa, rfl, _, _, rfl⟩⟩ := ha'
  · cases h0
  have hp5 := hp4.tick (t := ((1 : Nat) : Int)) (by omega)
  refine RS.pv (PV.all tab_ok rfl) rfl ?_
  refine RS.pv (PV.all tab_ok rfl) rfl ?_
  refine RS.pv (PV.all tab_ok rfl) rfl ?_
  refine RS.pv (PV.all tab_ok rfl) rfl ?_
  refine RS.pv (PV.all tab_ok rfl) rfl ?_
  refine RS.nil ?_
  refine thenQ.normal ?_
  refine CS.seq ?_
  refine CS.region (id := 6) ?_
  refine RS.pv (PV.all tab_ok rfl) rfl ?_
  refine RS.perm (List.perm_append_comm_assoc _ _ _) ?_
  refine RS.call (Tick_s p 2 _ 1 (by omega) _ _ hp5 (Nat.zero_le 1)) rfl (by kernel_rfl) rfl ?_
  rintro v i7 L7 hi7 ⟨sb, Ob, rfl, hb, rfl, rfl⟩
  have hb' : SlO 41 sb 14 0 [] Ob := hb
  obtain ⟨ab, cb, rfl⟩ := SlO.shape hb'
  have hp6 := hp5.tick (t := ((1 : Nat) : Int)) (by omega)
  refine RS.pv (PV.all tab_ok rfl) rfl ?_
  refine RS.pv (PV.all tab_ok rfl) rfl ?_
  refine RS.pv (PV.all tab_ok rfl) rfl ?_
  refine RS.pv (PV.all tab_ok rfl) rfl ?_
  refine RS.pv (PV.all tab_ok rfl) rfl ?_
  refine RS.nil ?_
  refine thenQ.normal ?_
  refine CS.seq ?_
  refine CS.region (id := 7) ?_
  refine RS.pv (PV.all tab_ok rfl) rfl ?_
  refine RS.perm (List.perm_append_comm_assoc _ _ _) ?_
  refine RS.call (Tick_s p 2 _ 5 (by omega) _ _ hp6 (Nat.le_refl 1)) rfl (by kernel_rfl) rfl ?_
  rintro v i8 L8 hi8 ⟨sc, Oc, rfl, hc, rfl, rfl⟩
  have hc' : SlO 41 sc 14 1 ((.int .i64 5 :: .int .i64 0 :: .string ⟨#[47, 114]⟩ :: rx) ++ []) Oc := hc
  obtain ⟨_, ⟨_, h0, _⟩ | ⟨gc, cc, spc, rfl, _, _, rfl⟩⟩ := hc'
  · cases h0
  refine RS.pv (PV.all tab_ok rfl) rfl ?_
  refine RS.pv (PV.all tab_ok rfl) rfl ?_
  refine RS.pv (PV.all tab_ok rfl) rfl ?_
  refine RS.pv (PV.all tab_ok rfl) rfl ?_
  refine RS.pv (PV.all tab_ok rfl) rfl ?_
  refine RS.nil ?_
  refine thenQ.normal ?_
  refine CS.seq ?_
  refine CS.region (id := 8) ?_
  refine RS.pv (PV.all tab_ok rfl) rfl ?_
  (first | refine RS.pv (PV.all tab_ok rfl) rfl ?_ | refine RS.pv (PV.eqlT rfl rfl (by omega)) rfl ?_ | refine RS.pv (PV.eqlF rfl rfl (by omega)) rfl ?_ | refine RS.ifEql rfl rfl rfl (fun h => ?_) (fun h => ?_) | refine RS.ifSeql rfl rfl rfl (fun h => ?_) (fun h => ?_))
  (all_goals refine RS.pv (PV.all tab_ok rfl) rfl ?_)
  (all_goals (first | refine RS.pv (PV.all tab_ok rfl) rfl ?_ | refine RS.skip rfl ?_))
  (all_goals (first | refine RS.pv (PV.all tab_ok rfl) rfl ?_ | refine RS.pv (PV.eqlT rfl rfl (by omega)) rfl ?_ | refine RS.pv (PV.eqlF rfl rfl (by omega)) rfl ?_ | refine RS.ifEql rfl rfl rfl (fun h => ?_) (fun h => ?_) | refine RS.ifSeql rfl rfl rfl (fun h => ?_) (fun h => ?_) | refine RS.skip rfl ?_))
  (all_goals refine RS.pv (PV.all tab_ok rfl) rfl ?_)
  (all_goals refine RS.pv (PV.all tab_ok rfl) rfl ?_)
  (all_goals (first | refine RS.pv (PV.all tab_ok rfl) rfl ?_ | refine RS.skip rfl ?_))
  (all_goals (first | refine RS.pv (PV.lenS tab_ok rfl rfl) rfl ?_ | refine RS.pv (PV.lenT tab_ok rfl rfl) rfl ?_ | refine RS.skip rfl ?_))
  (all_goals (first | refine RS.pv (PV.all tab_ok rfl) rfl ?_ | refine RS.pv (PV.eqlT rfl rfl (by omega)) rfl ?_ | refine RS.pv (PV.eqlF rfl rfl (by omega)) rfl ?_ | refine RS.ifEql rfl rfl rfl (fun h => ?_) (fun h => ?_) | refine RS.ifSeql rfl rfl rfl (fun h => ?_) (fun h => ?_) | refine RS.skip rfl ?_))
  (all_goals refine RS.pv (PV.all tab_ok rfl) rfl ?_)
  (all_goals refine RS.pv (PV.all tab_ok rfl) rfl ?_)
  (all_goals (first | refine RS.pv (PV.all tab_ok rfl) rfl ?_ | refine RS.skip rfl ?_))
  (all_goals (first | refine RS.pv (PV.indexAddr tab_ok rfl rfl rfl (by omega)) rfl ?_ | refine RS.pv (PV.indexAddrA tab_ok rfl rfl rfl (by omega)) rfl ?_ | refine RS.skip rfl ?_))
  (all_goals (first | refine RS.pv (PV.all tab_ok rfl) rfl ?_ | refine RS.skip rfl ?_))
  (all_goals (first | refine RS.lv (LV.load tab_ok rfl (Has.own 0 rfl) rfl) rfl ?_ | refine RS.lv (LV.load tab_ok rfl (Has.mem (List.mem_append_right _ (List.mem_append_right _ (List.mem_append_right _ (List.mem_cons_self ..))))) rfl) rfl ?_ | refine RS.skip rfl ?_))
  (all_goals (first | refine RS.pv (PV.all tab_ok rfl) rfl ?_ | refine RS.pv (PV.eqlT rfl rfl (by omega)) rfl ?_ | refine RS.pv (PV.eqlF rfl rfl (by omega)) rfl ?_ | refine RS.ifEql rfl rfl rfl (fun h => ?_) (fun h => ?_) | refine RS.ifSeql rfl rfl rfl (fun h => ?_) (fun h => ?_) | refine RS.skip rfl ?_))
  (all_goals refine RS.pv (PV.all tab_ok rfl) rfl ?_)
  (all_goals refine RS.pv (PV.all tab_ok rfl) rfl ?_)
  (all_goals (first | refine RS.pv (PV.all tab_ok rfl) rfl ?_ | refine RS.skip rfl ?_))
  (all_goals (first | refine RS.pv (PV.lenS tab_ok rfl rfl) rfl ?_ | refine RS.pv (PV.lenT tab_ok rfl rfl) rfl ?_ | refine RS.skip rfl ?_))
  (all_goals (first | refine RS.pv (PV.all tab_ok rfl) rfl ?_ | refine RS.pv (PV.eqlT rfl rfl (by omega)) rfl ?_ | refine RS.pv (PV.eqlF rfl rfl (by omega)) rfl ?_ | refine RS.ifEql rfl rfl rfl (fun h => ?_) (fun h => ?_) | refine RS.ifSeql rfl rfl rfl (fun h => ?_) (fun h => ?_) | refine RS.skip rfl ?_))
  (all_goals refine RS.pv (PV.all tab_ok rfl) rfl ?_)
  (all_goals refine RS.pv (PV.all tab_ok rfl) rfl ?_)
  (all_goals (first | refine RS.pv (PV.all tab_ok rfl) rfl ?_ | refine RS.skip rfl ?_))
  (all_goals (first | refine RS.pv (PV.lenS tab_ok rfl rfl) rfl ?_ | refine RS.pv (PV.lenT tab_ok rfl rfl) rfl ?_ | refine RS.skip rfl ?_))
  (all_goals (first | refine RS.pv (PV.all tab_ok rfl) rfl ?_ | refine RS.pv (PV.eqlT rfl rfl (by omega)) rfl ?_ | refine RS.pv (PV.eqlF rfl rfl (by omega)) rfl ?_ | refine RS.ifEql rfl rfl rfl (fun h => ?_) (fun h => ?_) | refine RS.ifSeql rfl rfl rfl (fun h => ?_) (fun h => ?_) | refine RS.skip rfl ?_))
  (all_goals refine RS.pv (PV.all tab_ok rfl) rfl ?_)
  (all_goals refine RS.pv (PV.all tab_ok rfl) rfl ?_)
  (all_goals (first | refine RS.pv (PV.all tab_ok rfl) rfl ?_ | refine RS.skip rfl ?_))
  (all_goals (first | refine RS.pv (PV.indexAddr tab_ok rfl rfl rfl (by omega)) rfl ?_ | refine RS.pv (PV.indexAddrA tab_ok rfl rfl rfl (by omega)) rfl ?_ | refine RS.skip rfl ?_))
  (all_goals (first | refine RS.pv (PV.all tab_ok rfl) rfl ?_ | refine RS.skip rfl ?_))
  (all_goals (first | refine RS.pv (PV.all tab_ok rfl) rfl ?_ | refine RS.skip rfl ?_))
  (all_goals (first | refine RS.lv (LV.load tab_ok rfl (Has.own 0 rfl) rfl) rfl ?_ | refine RS.lv (LV.load tab_ok rfl (Has.mem (List.mem_append_right _ (List.mem_append_right _ (List.mem_append_right _ (List.mem_cons_self ..))))) rfl) rfl ?_ | refine RS.skip rfl ?_))
  (all_goals refine RS.pv (PV.seqlT rfl rfl rfl) rfl ?_)
  (all_goals refine RS.pv (PV.all tab_ok rfl) rfl ?_)
  (all_goals refine RS.pv (PV.all tab_ok rfl) rfl ?_)
  (all_goals refine RS.nil ?_)
  refine thenQ.normal ?_
  refine CS.ret ?_
  refine retQ.ret ?_
  exact ⟨_ ++ (_ ++ (_ ++ _)), rfl, by simp only [List.append_assoc]; rfl⟩
end Go.Proofs.Ytmcajldlcomegaa
