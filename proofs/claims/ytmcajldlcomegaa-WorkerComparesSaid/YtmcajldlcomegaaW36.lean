/- Contracts: Index, Contains, without (the program's) and in, less (the reference's). -/
import Derived.Test.YtmcajldlcomegaaW35
namespace Go.Proofs.Ytmcajldlcomegaa
open Go Go.Eng

/-- an element of a row that can be read -/
theorem Rd_at {i : Imm} {L : SH} {v : Value} {sz n : Nat} {xs : List Value} (h : Rd i L v sz n xs) {k : Nat} (hk : k < n) (hsz : 0 < sz) :
    ∃ b o cs t fz cap, v = .slice (some ⟨b, o, none⟩) n cap ∧ Has i L b (.cells (List.toArray cs) t fz) ∧ ∀ d, d < sz → cs[o + ((k : Nat) : Int).toNat * sz + d]? = xs[k * sz + d]? := by
  obtain ⟨ao, cap, h1, h2, h3⟩ := h
  have hle : k * sz + sz ≤ n * sz := by
    have := Nat.mul_le_mul_right sz (show k + 1 ≤ n from hk)
    rw [Nat.add_mul, Nat.one_mul] at this; exact this
  rcases h3 with h3 | ⟨b, o, cs, t, fz, h4, h5, h6⟩
  · subst h3
    simp at h2; omega
  · refine ⟨b, o, cs, t, fz, cap, by rw [h1, h4], h5, fun d hd => ?_⟩
    rw [Int.toNat_natCast, Nat.add_assoc]
    exact h6 _ (by rw [h2]; omega)
theorem fidx_mem {l : List ByteArray} {s : ByteArray} : 0 ≤ fidx (fun x => decide (s = x)) l ↔ s ∈ l := by
  constructor
  · intro h
    obtain ⟨k, x, _, hk, hp, _⟩ := fidx_pos h
    rw [of_decide_eq_true hp]
    exact List.mem_of_getElem? hk
  · intro h
    unfold fidx
    cases hf : l.findIdx? (fun x => decide (s = x)) with
    | some k => simp
    | none =>
      rw [List.findIdx?_eq_none_iff] at hf
      have := hf s h
      simp at this
theorem IndexS_s (va : Value) (s : ByteArray) (a : List ByteArray) (n : Nat) (i : Imm) (L : SH) (ha : Rd i L va 1 n (strs a)) (hn : n = a.length) (hlen : n ≤ 9223372036854775807) :
    FnS Try.prog 104 [va, .string s] i L fun v i' L' => v = .int .i64 (fidx (fun x => decide (s = x)) a) ∧ i' = i ∧ L' = L := by
  obtain ⟨aa, ac, hva, -⟩ := id ha
  subst hva
  refine FnS.intro1 Try.func104 rfl Try.ntmps104 (by simp) Try.results104 ?_
  repeat' (first
    | refine CS.seq ?_
    | refine thenQ.normal ?_
    | refine CS.cond_true rfl ?_
    | refine CS.cond_false rfl ?_
    | refine CS.skip ?_
    | (refine CS.region (id := 0) ?_;
        refine RS.pv (PV.all tab_ok rfl) rfl ?_;
        refine RS.nil ?_)
    | (refine CS.region (id := 1) ?_;
        refine RS.pv (PV.all tab_ok rfl) rfl ?_;
        (first | refine RS.pv (PV.lenS tab_ok rfl rfl) rfl ?_ | refine RS.pv (PV.lenT tab_ok rfl rfl) rfl ?_);
        refine RS.pv (PV.all tab_ok rfl) rfl ?_;
        refine RS.nil ?_)
    | refine CS.ret ?_
    | refine thenQ.ret ?_
    | refine blkQ.ret ?_
    | refine retQ.ret ?_
    | refine CS.block ?_
    | refine CS.exit ?_
    | refine thenQ.exit ?_
    | refine blkQ.normal ?_
    | refine blkQ.here ?_
    | refine blkQ.past rfl ?_
    | refine retQ.normal ?_)
  refine CS.loop [0, 1, 7, 8] (fun m vs i' L' => ∃ k : Nat, m = n - k ∧ k ≤ n ∧ (∀ j y, j < k → a[j]? = some y → decide (s = y) = false) ∧ vs = [.slice aa n ac, .string s, .int .i64 n, .int .i64 (k : Int)] ∧ i' = i ∧ L' = L) n ⟨0, rfl, Nat.zero_le _, fun j y hj => absurd hj (by omega), rfl, rfl, rfl⟩ ?_
  rintro m g vs i' L' hi ⟨k, rfl, hk, hpre, rfl, rfl, rfl⟩
  by_cases hlt : k < n
  · obtain ⟨b1, o1, c1, t1, z1, p1, e1, g1, h1⟩ := Rd_at ha hlt (by omega)
    cases e1
    obtain ⟨x, hx⟩ : ∃ x, a[k]? = some x := ⟨_, List.getElem?_eq_getElem (by omega)⟩
    have q1 := h1 0 (by omega)
    rw [strs_at, hx] at q1
    repeat' (first
      | refine CS.seq ?_
      | refine thenQ.normal ?_
      | refine CS.cond_true rfl ?_
      | refine CS.cond_false rfl ?_
      | refine CS.skip ?_
      | (refine CS.region (id := 0) ?_;
          refine RS.pv (PV.all tab_ok rfl) rfl ?_;
          refine RS.nil ?_)
      | (refine CS.region (id := 2) ?_;
          (first | refine RS.pv (PV.lssT rfl rfl (by omega)) rfl ?_ | refine RS.pv (PV.lssF rfl rfl (by omega)) rfl ?_ | refine RS.ifLss rfl rfl rfl (fun h => ?_) (fun h => ?_));
          (all_goals refine RS.nil ?_))
      | (refine CS.region (id := 3) ?_;
          refine RS.pv (PV.all tab_ok rfl) rfl ?_;
          refine RS.pv (PV.all tab_ok rfl) rfl ?_;
          refine RS.nil ?_)
      | (refine CS.region (id := 4) ?_;
          refine RS.pv (PV.all tab_ok rfl) rfl ?_;
          refine RS.pv (PV.all tab_ok rfl) rfl ?_;
          refine RS.pv (PV.all tab_ok rfl) rfl ?_;
          (first | refine RS.pv (PV.indexAddr tab_ok rfl rfl rfl (by omega)) rfl ?_ | refine RS.pv (PV.indexAddrA tab_ok rfl rfl rfl (by omega)) rfl ?_);
          refine RS.lv (LV.load1 tab_ok rfl g1 rfl q1) rfl ?_;
          (all_goals refine RS.pvB (PV.seql rfl rfl) rfl (fun h => ?_) (fun h => ?_));
          (all_goals refine RS.nil ?_))
      | (refine CS.region (id := 5) ?_;
          refine RS.pv (PV.all tab_ok rfl) rfl ?_;
          refine RS.pv (PV.all tab_ok rfl) rfl ?_;
          refine RS.nil ?_)
      | (refine CS.region (id := 6) ?_;
          refine RS.pv (PV.add rfl rfl (by omega)) rfl ?_;
          refine RS.pv (PV.all tab_ok rfl) rfl ?_;
          refine RS.nil ?_)
      | refine CS.ret ?_
      | refine thenQ.ret ?_
      | refine blkQ.ret ?_
      | refine retQ.ret ?_
      | refine CS.block ?_
      | refine CS.exit ?_
      | refine thenQ.exit ?_
      | refine blkQ.normal ?_
      | refine blkQ.here ?_
      | refine blkQ.past rfl ?_
      | refine retQ.normal ?_)
    · exact ⟨congrArg (Value.int .i64) (fidx_at hx (decide_eq_true h) fun j y hj hy => hpre j y hj hy).symm, rfl, rfl⟩
    · refine ⟨n - (k + 1), by omega, k + 1, rfl, hlt, fun j y hj hy => ?_, rfl, rfl, rfl⟩
      rcases Nat.lt_succ_iff_lt_or_eq.1 hj with hj | rfl
      · exact hpre j y hj hy
      · rw [hx] at hy; cases hy; exact decide_eq_false h
  · repeat' (first
      | refine CS.seq ?_
      | refine thenQ.normal ?_
      | refine CS.cond_true rfl ?_
      | refine CS.cond_false rfl ?_
      | refine CS.skip ?_
      | (refine CS.region (id := 0) ?_;
          refine RS.pv (PV.all tab_ok rfl) rfl ?_;
          refine RS.nil ?_)
      | (refine CS.region (id := 2) ?_;
          (first | refine RS.pv (PV.lssT rfl rfl (by omega)) rfl ?_ | refine RS.pv (PV.lssF rfl rfl (by omega)) rfl ?_ | refine RS.ifLss rfl rfl rfl (fun h => ?_) (fun h => ?_));
          (all_goals refine RS.nil ?_))
      | (refine CS.region (id := 7) ?_;
          refine RS.pv (PV.all tab_ok rfl) rfl ?_;
          refine RS.nil ?_)
      | refine CS.ret ?_
      | refine thenQ.ret ?_
      | refine blkQ.ret ?_
      | refine retQ.ret ?_
      | refine CS.block ?_
      | refine CS.exit ?_
      | refine thenQ.exit ?_
      | refine blkQ.normal ?_
      | refine blkQ.here ?_
      | refine blkQ.past rfl ?_
      | refine retQ.normal ?_)
    exact ⟨congrArg (Value.int .i64) (fidx_none fun j y hy => hpre j y (by have := (List.getElem?_eq_some_iff.1 hy).1; omega) hy).symm, rfl, rfl⟩
theorem ContainsS_s (va : Value) (s : ByteArray) (a : List ByteArray) (n : Nat) (i : Imm) (L : SH) (ha : Rd i L va 1 n (strs a)) (hn : n = a.length) (hlen : n ≤ 9223372036854775807) :
    FnS Try.prog 89 [va, .string s] i L fun v i' L' => v = .bool (decide (s ∈ a)) ∧ i' = i ∧ L' = L := by
  obtain ⟨aa, ac, hva, -⟩ := id ha
  subst hva
  refine FnS.intro1 Try.func89 rfl Try.ntmps89 (by simp) Try.results89 ?_
  repeat' (first
    | refine CS.seq ?_
    | refine thenQ.normal ?_
    | refine CS.cond_true rfl ?_
    | refine CS.cond_false rfl ?_
    | refine CS.skip ?_
    | (refine CS.region (id := 0) ?_;
        refine RS.pv (PV.all tab_ok rfl) rfl ?_;
        refine RS.nil ?_)
    | (refine CS.region (id := 1) ?_;
        refine RS.pv (PV.all tab_ok rfl) rfl ?_;
        refine RS.pv (PV.all tab_ok rfl) rfl ?_;
        (refine RS.call (IndexS_s _ s a n _ _ ha hn hlen) rfl (by kernel_rfl) rfl ?_; rintro v i2 L2 hi2 ⟨rfl, rfl, rfl⟩);
        (all_goals refine RS.ifGeq rfl rfl rfl (fun h => ?_) (fun h => ?_));
        (all_goals refine RS.pv (PV.all tab_ok rfl) rfl ?_);
        (all_goals refine RS.nil ?_))
    | refine CS.ret ?_
    | refine thenQ.ret ?_
    | refine blkQ.ret ?_
    | refine retQ.ret ?_
    | refine CS.block ?_
    | refine CS.exit ?_
    | refine thenQ.exit ?_
    | refine blkQ.normal ?_
    | refine blkQ.here ?_
    | refine blkQ.past rfl ?_
    | refine retQ.normal ?_)
  · exact ⟨congrArg Value.bool (decide_eq_true (fidx_mem.1 h)).symm, rfl, rfl⟩
  · exact ⟨congrArg Value.bool (decide_eq_false fun hm => absurd (fidx_mem.2 hm) (by omega)).symm, rfl, rfl⟩
theorem inS_s (va : Value) (s : ByteArray) (a : List ByteArray) (n : Nat) (i : Imm) (L : SH) (ha : Rd i L va 1 n (strs a)) (hn : n = a.length) (hlen : n ≤ 9223372036854775807) :
    FnS Try.prog 90 [va, .string s] i L fun v i' L' => v = .bool (decide (s ∈ a)) ∧ i' = i ∧ L' = L := by
  obtain ⟨aa, ac, hva, -⟩ := id ha
  subst hva
  refine FnS.intro1 Try.func90 rfl Try.ntmps90 (by simp) Try.results90 ?_
  repeat' (first
    | refine CS.seq ?_
    | refine thenQ.normal ?_
    | refine CS.cond_true rfl ?_
    | refine CS.cond_false rfl ?_
    | refine CS.skip ?_
    | (refine CS.region (id := 0) ?_;
        refine RS.pv (PV.all tab_ok rfl) rfl ?_;
        refine RS.nil ?_)
    | (refine CS.region (id := 1) ?_;
        refine RS.pv (PV.all tab_ok rfl) rfl ?_;
        refine RS.nil ?_)
    | refine CS.ret ?_
    | refine thenQ.ret ?_
    | refine blkQ.ret ?_
    | refine retQ.ret ?_
    | refine CS.block ?_
    | refine CS.exit ?_
    | refine thenQ.exit ?_
    | refine blkQ.normal ?_
    | refine blkQ.here ?_
    | refine blkQ.past rfl ?_
    | refine retQ.normal ?_)
  refine CS.loop [0, 1, 5] (fun m vs i' L' => ∃ k : Nat, m = n - k ∧ k ≤ n ∧ (∀ j y, j < k → a[j]? = some y → s ≠ y) ∧ vs = [.slice aa n ac, .string s, .int .i64 (k : Int)] ∧ i' = i ∧ L' = L) n ⟨0, rfl, Nat.zero_le _, fun j y hj => absurd hj (by omega), rfl, rfl, rfl⟩ ?_
  rintro m g vs i' L' hi ⟨k, rfl, hk, hpre, rfl, rfl, rfl⟩
  by_cases hlt : k < n
  · obtain ⟨b1, o1, c1, t1, z1, p1, e1, g1, h1⟩ := Rd_at ha hlt (by omega)
    cases e1
    obtain ⟨x, hx⟩ : ∃ x, a[k]? = some x := ⟨_, List.getElem?_eq_getElem (by omega)⟩
    have q1 := h1 0 (by omega)
    rw [strs_at, hx] at q1
    repeat' (first
      | refine CS.seq ?_
      | refine thenQ.normal ?_
      | refine CS.cond_true rfl ?_
      | refine CS.cond_false rfl ?_
      | refine CS.skip ?_
      | (refine CS.region (id := 0) ?_;
          refine RS.pv (PV.all tab_ok rfl) rfl ?_;
          refine RS.nil ?_)
      | (refine CS.region (id := 2) ?_;
          refine RS.pv (PV.all tab_ok rfl) rfl ?_;
          refine RS.pv (PV.all tab_ok rfl) rfl ?_;
          (first | refine RS.pv (PV.lenS tab_ok rfl rfl) rfl ?_ | refine RS.pv (PV.lenT tab_ok rfl rfl) rfl ?_);
          (first | refine RS.pv (PV.lssT rfl rfl (by omega)) rfl ?_ | refine RS.pv (PV.lssF rfl rfl (by omega)) rfl ?_ | refine RS.ifLss rfl rfl rfl (fun h => ?_) (fun h => ?_));
          (all_goals refine RS.nil ?_))
      | (refine CS.region (id := 3) ?_;
          refine RS.pv (PV.all tab_ok rfl) rfl ?_;
          refine RS.pv (PV.add rfl rfl (by omega)) rfl ?_;
          refine RS.pv (PV.all tab_ok rfl) rfl ?_;
          refine RS.nil ?_)
      | (refine CS.region (id := 4) ?_;
          refine RS.pv (PV.all tab_ok rfl) rfl ?_;
          refine RS.pv (PV.all tab_ok rfl) rfl ?_;
          (first | refine RS.pv (PV.indexAddr tab_ok rfl rfl rfl (by omega)) rfl ?_ | refine RS.pv (PV.indexAddrA tab_ok rfl rfl rfl (by omega)) rfl ?_);
          refine RS.lv (LV.load1 tab_ok rfl g1 rfl q1) rfl ?_;
          (all_goals refine RS.pv (PV.all tab_ok rfl) rfl ?_);
          (all_goals refine RS.pvB (PV.seql rfl rfl) rfl (fun h => ?_) (fun h => ?_));
          (all_goals refine RS.nil ?_))
      | (refine CS.region (id := 5) ?_;
          refine RS.pv (PV.all tab_ok rfl) rfl ?_;
          refine RS.nil ?_)
      | refine CS.ret ?_
      | refine thenQ.ret ?_
      | refine blkQ.ret ?_
      | refine retQ.ret ?_
      | refine CS.block ?_
      | refine CS.exit ?_
      | refine thenQ.exit ?_
      | refine blkQ.normal ?_
      | refine blkQ.here ?_
      | refine blkQ.past rfl ?_
      | refine retQ.normal ?_)
    · exact ⟨congrArg Value.bool (decide_eq_true (by rw [← h]; exact List.mem_of_getElem? hx)).symm, rfl, rfl⟩
    · refine ⟨n - (k + 1), by omega, k + 1, rfl, hlt, fun j y hj hy => ?_, rfl, rfl, rfl⟩
      rcases Nat.lt_succ_iff_lt_or_eq.1 hj with hj | rfl
      · exact hpre j y hj hy
      · rw [hx] at hy; cases hy; exact fun e => h e.symm
  · repeat' (first
      | refine CS.seq ?_
      | refine thenQ.normal ?_
      | refine CS.cond_true rfl ?_
      | refine CS.cond_false rfl ?_
      | refine CS.skip ?_
      | (refine CS.region (id := 0) ?_;
          refine RS.pv (PV.all tab_ok rfl) rfl ?_;
          refine RS.nil ?_)
      | (refine CS.region (id := 2) ?_;
          refine RS.pv (PV.all tab_ok rfl) rfl ?_;
          refine RS.pv (PV.all tab_ok rfl) rfl ?_;
          (first | refine RS.pv (PV.lenS tab_ok rfl rfl) rfl ?_ | refine RS.pv (PV.lenT tab_ok rfl rfl) rfl ?_);
          (first | refine RS.pv (PV.lssT rfl rfl (by omega)) rfl ?_ | refine RS.pv (PV.lssF rfl rfl (by omega)) rfl ?_ | refine RS.ifLss rfl rfl rfl (fun h => ?_) (fun h => ?_));
          (all_goals refine RS.nil ?_))
      | (refine CS.region (id := 6) ?_;
          refine RS.pv (PV.all tab_ok rfl) rfl ?_;
          refine RS.nil ?_)
      | refine CS.ret ?_
      | refine thenQ.ret ?_
      | refine blkQ.ret ?_
      | refine retQ.ret ?_
      | refine CS.block ?_
      | refine CS.exit ?_
      | refine thenQ.exit ?_
      | refine blkQ.normal ?_
      | refine blkQ.here ?_
      | refine blkQ.past rfl ?_
      | refine retQ.normal ?_)
    exact ⟨congrArg Value.bool (decide_eq_false fun hm => by
      obtain ⟨j, hj⟩ := List.mem_iff_getElem?.1 hm
      exact hpre j s (by have := (List.getElem?_eq_some_iff.1 hj).1; omega) hj rfl).symm, rfl, rfl⟩
/-- the elements of a that are not in b, each once -/
def wstep (b acc : List ByteArray) (s : ByteArray) : List ByteArray := if s ∈ b then acc else if s ∈ acc then acc else acc ++ [s]
def wout (a b : List ByteArray) : List ByteArray := a.foldl (wstep b) []
theorem wout_snoc {a b : List ByteArray} {k : Nat} {s : ByteArray} (h : a[k]? = some s) : wout (a.take (k + 1)) b = wstep b (wout (a.take k) b) s := by
  unfold wout
  rw [List.take_add_one, h, List.foldl_append]
  rfl
theorem wout_len (a b : List ByteArray) : (wout a b).length ≤ a.length := by
  have key : ∀ (a acc : List ByteArray), (a.foldl (wstep b) acc).length ≤ acc.length + a.length := by
    intro a
    induction a with
    | nil => intro acc; simp
    | cons s a ih =>
      intro acc
      rw [List.foldl_cons]
      have h1 := ih (wstep b acc s)
      have h2 : (wstep b acc s).length ≤ acc.length + 1 := by
        unfold wstep
        by_cases h1 : s ∈ b
        · rw [if_pos h1]; omega
        · rw [if_neg h1]
          by_cases h2 : s ∈ acc
          · rw [if_pos h2]; omega
          · rw [if_neg h2]; simp
      simp only [List.length_cons]; omega
  simpa [wout] using key a []
theorem strs_snoc (l : List ByteArray) (s : ByteArray) : strs (l ++ [s]) = strs l ++ [.string s] := by simp [strs]
theorem without_s (va vb : Value) (a b : List ByteArray) (i : Imm) (L : SH) (ha : Sl i va 1 a.length (strs a)) (hb : Sl i vb 1 b.length (strs b)) (hla : a.length ≤ 1000000) (hlb : b.length ≤ 1000000) :
    FnS Try.prog 56 [va, vb] i L fun v i' L' => Sl i' v 1 (wout a b).length (strs (wout a b)) ∧ L' = L := by
  refine FnS.state (K := fun v _ L' => ∃ O, SlO 9 v 1 (wout a b).length (strs (wout a b)) O ∧ L' = O ++ L) ?_ ?_
  rotate_left
  · rintro v i' L' w _ hs ⟨O, h1, rfl⟩
    obtain ⟨i2, h3, h4, h5⟩ := h1.freeze hs
    exact ⟨i2, _, h3, h4, h5, rfl⟩
  obtain ⟨aa, ac, hva, -⟩ := id ha
  obtain ⟨ba, bc, hvb, -⟩ := id hb
  subst hva
  subst hvb
  refine FnS.intro1 Try.func56 rfl Try.ntmps56 (by simp) Try.results56 ?_
  repeat' (first
    | refine CS.seq ?_
    | refine thenQ.normal ?_
    | refine CS.cond_true rfl ?_
    | refine CS.cond_false rfl ?_
    | refine CS.skip ?_
    | (refine CS.region (id := 0) ?_;
        refine RS.pv (PV.all tab_ok rfl) rfl ?_;
        refine RS.nil ?_)
    | (refine CS.region (id := 1) ?_;
        refine RS.pv (PV.all tab_ok rfl) rfl ?_;
        refine RS.nil ?_)
    | (refine CS.region (id := 2) ?_;
        refine RS.pv (PV.all tab_ok rfl) rfl ?_;
        (first | refine RS.pv (PV.lenS tab_ok rfl rfl) rfl ?_ | refine RS.pv (PV.lenT tab_ok rfl rfl) rfl ?_);
        refine RS.pv (PV.all tab_ok rfl) rfl ?_;
        refine RS.nil ?_)
    | refine CS.ret ?_
    | refine thenQ.ret ?_
    | refine blkQ.ret ?_
    | refine retQ.ret ?_
    | refine CS.block ?_
    | refine CS.exit ?_
    | refine thenQ.exit ?_
    | refine blkQ.normal ?_
    | refine blkQ.here ?_
    | refine blkQ.past rfl ?_
    | refine retQ.normal ?_)
  refine CS.loop [1, 5, 8, 9, 10] (fun m vs i' L' => ∃ (k : Nat) (ou : List ByteArray) (oo : Option Addr) (oc : Nat) (O : SH), m = a.length - k ∧ k ≤ a.length ∧ ou = wout (a.take k) b ∧ i.le i' ∧ SlO 9 (.slice oo ou.length oc) 1 ou.length (strs ou) O ∧ vs = [.slice ba b.length bc, .slice oo ou.length oc, .slice aa a.length ac, .int .i64 a.length, .int .i64 (k : Int)] ∧ L' = O ++ L) a.length ⟨0, [], none, 0, [], rfl, Nat.zero_le _, rfl, Imm.le.refl i, SlO.nil 9 1, rfl, rfl⟩ ?_
  rintro m g vs i' L' _ ⟨k, ou, oo, oc, O, rfl, hk, hou, hi, hO, rfl, rfl⟩
  by_cases hlt : k < a.length
  · obtain ⟨b1, o1, c1, t1, z1, p1, e1, g1, h1⟩ := (ha.le hi).at hlt (by omega)
    cases e1
    obtain ⟨s, hs⟩ : ∃ s, a[k]? = some s := ⟨_, List.getElem?_eq_getElem hlt⟩
    have q1 := h1 0 (by omega)
    rw [strs_at, hs] at q1
    have hol : ou.length ≤ k := by rw [hou]; have := wout_len (a.take k) b; simp at this; omega
    have hn := wout_snoc (b := b) hs
    rw [← hou] at hn
    have hrd := hO.rd (i := i') (L := L)
    by_cases hsb : s ∈ b
    · have e : wstep b ou s = ou := if_pos hsb
      rw [e] at hn
      repeat' (first
        | refine CS.seq ?_
        | refine thenQ.normal ?_
        | refine CS.cond_true rfl ?_
        | refine CS.cond_false rfl ?_
        | refine CS.skip ?_
        | (refine CS.region (id := 0) ?_;
            refine RS.pv (PV.all tab_ok rfl) rfl ?_;
            refine RS.nil ?_)
        | (refine CS.region (id := 1) ?_;
            refine RS.pv (PV.all tab_ok rfl) rfl ?_;
            refine RS.nil ?_)
        | (refine CS.region (id := 3) ?_;
            (first | refine RS.pv (PV.lssT rfl rfl (by omega)) rfl ?_ | refine RS.pv (PV.lssF rfl rfl (by omega)) rfl ?_ | refine RS.ifLss rfl rfl rfl (fun h => ?_) (fun h => ?_));
            (all_goals refine RS.nil ?_))
        | (refine CS.region (id := 4) ?_;
            (first | refine RS.pv (PV.indexAddr tab_ok rfl rfl rfl (by omega)) rfl ?_ | refine RS.pv (PV.indexAddrA tab_ok rfl rfl rfl (by omega)) rfl ?_);
            refine RS.lv (LV.load1 tab_ok rfl (Has.imm g1) rfl q1) rfl ?_;
            (all_goals refine RS.pv (PV.all tab_ok rfl) rfl ?_);
            (all_goals refine RS.nil ?_))
        | (refine CS.region (id := 5) ?_;
            refine RS.pv (PV.all tab_ok rfl) rfl ?_;
            refine RS.pv (PV.all tab_ok rfl) rfl ?_;
            refine RS.callB (ContainsS_s _ s b _ _ _ ((hb.le hi).rd _) rfl (by omega)) rfl (by kernel_rfl) rfl (fun h => ?_) (fun h => absurd hsb h);
            (all_goals refine RS.pv (PV.all tab_ok rfl) rfl ?_);
            (all_goals refine RS.pv (PV.all tab_ok rfl) rfl ?_);
            (all_goals (first | refine RS.pv (PV.all tab_ok rfl) rfl ?_ | refine RS.skip rfl ?_));
            (all_goals (first | refine RS.pv (PV.all tab_ok rfl) rfl ?_ | refine RS.skip rfl ?_));
            (all_goals refine RS.skip rfl ?_);
            (all_goals (first | refine RS.pv (PV.all tab_ok rfl) rfl ?_ | refine RS.skip rfl ?_));
            (all_goals refine RS.pv (PV.all tab_ok rfl) rfl ?_);
            (all_goals refine RS.nil ?_))
        | (refine CS.region (id := 7) ?_;
            refine RS.pv (PV.add rfl rfl (by omega)) rfl ?_;
            refine RS.pv (PV.all tab_ok rfl) rfl ?_;
            refine RS.nil ?_)
        | refine CS.ret ?_
        | refine thenQ.ret ?_
        | refine blkQ.ret ?_
        | refine retQ.ret ?_
        | refine CS.block ?_
        | refine CS.exit ?_
        | refine thenQ.exit ?_
        | refine blkQ.normal ?_
        | refine blkQ.here ?_
        | refine blkQ.past rfl ?_
        | refine retQ.normal ?_)
      exact ⟨a.length - (k + 1), by omega, k + 1, ou, oo, oc, O, rfl, hlt, hn.symm, hi, hO, rfl, rfl⟩
    · by_cases hso : s ∈ ou
      · have e : wstep b ou s = ou := by unfold wstep; rw [if_neg hsb, if_pos hso]
        rw [e] at hn
        repeat' (first
          | refine CS.seq ?_
          | refine thenQ.normal ?_
          | refine CS.cond_true rfl ?_
          | refine CS.cond_false rfl ?_
          | refine CS.skip ?_
          | (refine CS.region (id := 0) ?_;
              refine RS.pv (PV.all tab_ok rfl) rfl ?_;
              refine RS.nil ?_)
          | (refine CS.region (id := 1) ?_;
              refine RS.pv (PV.all tab_ok rfl) rfl ?_;
              refine RS.nil ?_)
          | (refine CS.region (id := 3) ?_;
              (first | refine RS.pv (PV.lssT rfl rfl (by omega)) rfl ?_ | refine RS.pv (PV.lssF rfl rfl (by omega)) rfl ?_ | refine RS.ifLss rfl rfl rfl (fun h => ?_) (fun h => ?_));
              (all_goals refine RS.nil ?_))
          | (refine CS.region (id := 4) ?_;
              (first | refine RS.pv (PV.indexAddr tab_ok rfl rfl rfl (by omega)) rfl ?_ | refine RS.pv (PV.indexAddrA tab_ok rfl rfl rfl (by omega)) rfl ?_);
              refine RS.lv (LV.load1 tab_ok rfl (Has.imm g1) rfl q1) rfl ?_;
              (all_goals refine RS.pv (PV.all tab_ok rfl) rfl ?_);
              (all_goals refine RS.nil ?_))
          | (refine CS.region (id := 5) ?_;
              refine RS.pv (PV.all tab_ok rfl) rfl ?_;
              refine RS.pv (PV.all tab_ok rfl) rfl ?_;
              refine RS.callB (ContainsS_s _ s b _ _ _ ((hb.le hi).rd _) rfl (by omega)) rfl (by kernel_rfl) rfl (fun h => absurd h hsb) (fun h => ?_);
              (all_goals refine RS.pv (PV.all tab_ok rfl) rfl ?_);
              (all_goals refine RS.pv (PV.all tab_ok rfl) rfl ?_);
              (all_goals (first | refine RS.pv (PV.all tab_ok rfl) rfl ?_ | refine RS.skip rfl ?_));
              (all_goals (first | refine RS.pv (PV.all tab_ok rfl) rfl ?_ | refine RS.skip rfl ?_));
              (all_goals refine RS.callB (ContainsS_s _ s ou _ _ _ hrd rfl (by omega)) rfl (by kernel_rfl) rfl (fun h => ?_) (fun h => absurd hso h));
              (all_goals (first | refine RS.pv (PV.all tab_ok rfl) rfl ?_ | refine RS.skip rfl ?_));
              (all_goals refine RS.pv (PV.all tab_ok rfl) rfl ?_);
              (all_goals refine RS.nil ?_))
          | (refine CS.region (id := 7) ?_;
              refine RS.pv (PV.add rfl rfl (by omega)) rfl ?_;
              refine RS.pv (PV.all tab_ok rfl) rfl ?_;
              refine RS.nil ?_)
          | refine CS.ret ?_
          | refine thenQ.ret ?_
          | refine blkQ.ret ?_
          | refine retQ.ret ?_
          | refine CS.block ?_
          | refine CS.exit ?_
          | refine thenQ.exit ?_
          | refine blkQ.normal ?_
          | refine blkQ.here ?_
          | refine blkQ.past rfl ?_
          | refine retQ.normal ?_)
        exact ⟨a.length - (k + 1), by omega, k + 1, ou, oo, oc, O, rfl, hlt, hn.symm, hi, hO, rfl, rfl⟩
      · have e : wstep b ou s = ou ++ [s] := by unfold wstep; rw [if_neg hsb, if_neg hso]
        rw [e] at hn
        repeat' (first
          | refine CS.seq ?_
          | refine thenQ.normal ?_
          | refine CS.cond_true rfl ?_
          | refine CS.cond_false rfl ?_
          | refine CS.skip ?_
          | (refine CS.region (id := 0) ?_;
              refine RS.pv (PV.all tab_ok rfl) rfl ?_;
              refine RS.nil ?_)
          | (refine CS.region (id := 1) ?_;
              refine RS.pv (PV.all tab_ok rfl) rfl ?_;
              refine RS.nil ?_)
          | (refine CS.region (id := 3) ?_;
              (first | refine RS.pv (PV.lssT rfl rfl (by omega)) rfl ?_ | refine RS.pv (PV.lssF rfl rfl (by omega)) rfl ?_ | refine RS.ifLss rfl rfl rfl (fun h => ?_) (fun h => ?_));
              (all_goals refine RS.nil ?_))
          | (refine CS.region (id := 4) ?_;
              (first | refine RS.pv (PV.indexAddr tab_ok rfl rfl rfl (by omega)) rfl ?_ | refine RS.pv (PV.indexAddrA tab_ok rfl rfl rfl (by omega)) rfl ?_);
              refine RS.lv (LV.load1 tab_ok rfl (Has.imm g1) rfl q1) rfl ?_;
              (all_goals refine RS.pv (PV.all tab_ok rfl) rfl ?_);
              (all_goals refine RS.nil ?_))
          | (refine CS.region (id := 5) ?_;
              refine RS.pv (PV.all tab_ok rfl) rfl ?_;
              refine RS.pv (PV.all tab_ok rfl) rfl ?_;
              refine RS.callB (ContainsS_s _ s b _ _ _ ((hb.le hi).rd _) rfl (by omega)) rfl (by kernel_rfl) rfl (fun h => absurd h hsb) (fun h => ?_);
              (all_goals refine RS.pv (PV.all tab_ok rfl) rfl ?_);
              (all_goals refine RS.pv (PV.all tab_ok rfl) rfl ?_);
              (all_goals (first | refine RS.pv (PV.all tab_ok rfl) rfl ?_ | refine RS.skip rfl ?_));
              (all_goals (first | refine RS.pv (PV.all tab_ok rfl) rfl ?_ | refine RS.skip rfl ?_));
              (all_goals refine RS.callB (ContainsS_s _ s ou _ _ _ hrd rfl (by omega)) rfl (by kernel_rfl) rfl (fun h => absurd h hso) (fun h => ?_));
              (all_goals (first | refine RS.pv (PV.all tab_ok rfl) rfl ?_ | refine RS.skip rfl ?_));
              (all_goals refine RS.pv (PV.all tab_ok rfl) rfl ?_);
              (all_goals refine RS.nil ?_))
          | (refine CS.region (id := 6) ?_;
              refine RS.pv (PV.all tab_ok rfl) rfl ?_;
              refine RS.pv (PV.all tab_ok rfl) rfl ?_;
              refine RS.buildSliceF tab_ok 1 rfl rfl rfl (fun bb i2 hi2 hbs => ?_);
              (all_goals (refine RS.append tab_ok (sz := 1) (bytes := 16) (k := ou.length) (m := 1) (xs := strs ou) (news := [.string s]) rfl rfl rfl ⟨_, rfl, rfl⟩ ⟨_, rfl, rfl, rfl⟩ (by omega) hO rfl (hbs.rd _) (by intro c hc; simp at hc; subst hc; rfl) (by omega) (by omega) ?_; intro v' O' hO' hnil; obtain ⟨ao', cap', rfl⟩ := SlO.shape hO'));
              (all_goals refine RS.pv (PV.all tab_ok rfl) rfl ?_);
              (all_goals refine RS.nil ?_))
          | (refine CS.region (id := 7) ?_;
              refine RS.pv (PV.add rfl rfl (by omega)) rfl ?_;
              refine RS.pv (PV.all tab_ok rfl) rfl ?_;
              refine RS.nil ?_)
          | refine CS.ret ?_
          | refine thenQ.ret ?_
          | refine blkQ.ret ?_
          | refine retQ.ret ?_
          | refine CS.block ?_
          | refine CS.exit ?_
          | refine thenQ.exit ?_
          | refine blkQ.normal ?_
          | refine blkQ.here ?_
          | refine blkQ.past rfl ?_
          | refine retQ.normal ?_)
        exact ⟨a.length - (k + 1), by omega, k + 1, ou ++ [s], ao', cap', O', rfl, hlt, hn.symm, hi.trans hi2, by rw [strs_snoc, List.length_append]; exact hO', by rw [List.length_append]; rfl, rfl⟩
  · have hke : k = a.length := by omega
    subst hke
    rw [List.take_length] at hou
    subst hou
    repeat' (first
      | refine CS.seq ?_
      | refine thenQ.normal ?_
      | refine CS.cond_true rfl ?_
      | refine CS.cond_false rfl ?_
      | refine CS.skip ?_
      | (refine CS.region (id := 0) ?_;
          refine RS.pv (PV.all tab_ok rfl) rfl ?_;
          refine RS.nil ?_)
      | (refine CS.region (id := 1) ?_;
          refine RS.pv (PV.all tab_ok rfl) rfl ?_;
          refine RS.nil ?_)
      | (refine CS.region (id := 3) ?_;
          (first | refine RS.pv (PV.lssT rfl rfl (by omega)) rfl ?_ | refine RS.pv (PV.lssF rfl rfl (by omega)) rfl ?_ | refine RS.ifLss rfl rfl rfl (fun h => ?_) (fun h => ?_));
          (all_goals refine RS.nil ?_))
      | (refine CS.region (id := 8) ?_;
          refine RS.pv (PV.all tab_ok rfl) rfl ?_;
          refine RS.pv (PV.all tab_ok rfl) rfl ?_;
          refine RS.nil ?_)
      | refine CS.ret ?_
      | refine thenQ.ret ?_
      | refine blkQ.ret ?_
      | refine retQ.ret ?_
      | refine CS.block ?_
      | refine CS.exit ?_
      | refine thenQ.exit ?_
      | refine blkQ.normal ?_
      | refine blkQ.here ?_
      | refine blkQ.past rfl ?_
      | refine retQ.normal ?_)
    exact ⟨O, hO, rfl⟩
theorem less_s' (va vb : Value) (a b : List ByteArray) (i : Imm) (L : SH) (ha : Sl i va 1 a.length (strs a)) (hb : Sl i vb 1 b.length (strs b)) (hla : a.length ≤ 1000000) (hlb : b.length ≤ 1000000) :
    FnS Try.prog 60 [va, vb] i L fun v i' L' => Sl i' v 1 (wout a b).length (strs (wout a b)) ∧ L' = L := by
  refine FnS.state (K := fun v _ L' => ∃ O, SlO 9 v 1 (wout a b).length (strs (wout a b)) O ∧ L' = O ++ L) ?_ ?_
  rotate_left
  · rintro v i' L' w _ hs ⟨O, h1, rfl⟩
    obtain ⟨i2, h3, h4, h5⟩ := h1.freeze hs
    exact ⟨i2, _, h3, h4, h5, rfl⟩
  obtain ⟨aa, ac, hva, -⟩ := id ha
  obtain ⟨ba, bc, hvb, -⟩ := id hb
  subst hva
  subst hvb
  refine FnS.intro1 Try.func60 rfl Try.ntmps60 (by simp) Try.results60 ?_
  repeat' (first
    | refine CS.seq ?_
    | refine thenQ.normal ?_
    | refine CS.cond_true rfl ?_
    | refine CS.cond_false rfl ?_
    | refine CS.skip ?_
    | (refine CS.region (id := 0) ?_;
        refine RS.pv (PV.all tab_ok rfl) rfl ?_;
        refine RS.nil ?_)
    | (refine CS.region (id := 1) ?_;
        refine RS.pv (PV.all tab_ok rfl) rfl ?_;
        refine RS.nil ?_)
    | (refine CS.region (id := 2) ?_;
        refine RS.pv (PV.all tab_ok rfl) rfl ?_;
        refine RS.nil ?_)
    | refine CS.ret ?_
    | refine thenQ.ret ?_
    | refine blkQ.ret ?_
    | refine retQ.ret ?_
    | refine CS.block ?_
    | refine CS.exit ?_
    | refine thenQ.exit ?_
    | refine blkQ.normal ?_
    | refine blkQ.here ?_
    | refine blkQ.past rfl ?_
    | refine retQ.normal ?_)
  refine CS.loop [0, 1, 5, 6] (fun m vs i' L' => ∃ (k : Nat) (ou : List ByteArray) (oo : Option Addr) (oc : Nat) (O : SH), m = a.length - k ∧ k ≤ a.length ∧ ou = wout (a.take k) b ∧ i.le i' ∧ SlO 9 (.slice oo ou.length oc) 1 ou.length (strs ou) O ∧ vs = [.slice aa a.length ac, .slice ba b.length bc, .slice oo ou.length oc, .int .i64 (k : Int)] ∧ L' = O ++ L) a.length ⟨0, [], none, 0, [], rfl, Nat.zero_le _, rfl, Imm.le.refl i, SlO.nil 9 1, rfl, rfl⟩ ?_
  rintro m g vs i' L' _ ⟨k, ou, oo, oc, O, rfl, hk, hou, hi, hO, rfl, rfl⟩
  by_cases hlt : k < a.length
  · obtain ⟨b1, o1, c1, t1, z1, p1, e1, g1, h1⟩ := (ha.le hi).at hlt (by omega)
    cases e1
    obtain ⟨s, hs⟩ : ∃ s, a[k]? = some s := ⟨_, List.getElem?_eq_getElem hlt⟩
    have q1 := h1 0 (by omega)
    rw [strs_at, hs] at q1
    have hol : ou.length ≤ k := by rw [hou]; have := wout_len (a.take k) b; simp at this; omega
    have hn := wout_snoc (b := b) hs
    rw [← hou] at hn
    have hrd := hO.rd (i := i') (L := L)
    by_cases hsb : s ∈ b
    · have e : wstep b ou s = ou := if_pos hsb
      rw [e] at hn
      repeat' (first
        | refine CS.seq ?_
        | refine thenQ.normal ?_
        | refine CS.cond_true rfl ?_
        | refine CS.cond_false rfl ?_
        | refine CS.skip ?_
        | (refine CS.region (id := 0) ?_;
            refine RS.pv (PV.all tab_ok rfl) rfl ?_;
            refine RS.nil ?_)
        | (refine CS.region (id := 1) ?_;
            refine RS.pv (PV.all tab_ok rfl) rfl ?_;
            refine RS.nil ?_)
        | (refine CS.region (id := 3) ?_;
            refine RS.pv (PV.all tab_ok rfl) rfl ?_;
            refine RS.pv (PV.all tab_ok rfl) rfl ?_;
            (first | refine RS.pv (PV.lenS tab_ok rfl rfl) rfl ?_ | refine RS.pv (PV.lenT tab_ok rfl rfl) rfl ?_);
            (first | refine RS.pv (PV.lssT rfl rfl (by omega)) rfl ?_ | refine RS.pv (PV.lssF rfl rfl (by omega)) rfl ?_ | refine RS.ifLss rfl rfl rfl (fun h => ?_) (fun h => ?_));
            (all_goals refine RS.nil ?_))
        | (refine CS.region (id := 4) ?_;
            refine RS.pv (PV.all tab_ok rfl) rfl ?_;
            refine RS.pv (PV.add rfl rfl (by omega)) rfl ?_;
            refine RS.pv (PV.all tab_ok rfl) rfl ?_;
            refine RS.nil ?_)
        | (refine CS.region (id := 5) ?_;
            refine RS.pv (PV.all tab_ok rfl) rfl ?_;
            refine RS.pv (PV.all tab_ok rfl) rfl ?_;
            refine RS.pv (PV.all tab_ok rfl) rfl ?_;
            (first | refine RS.pv (PV.indexAddr tab_ok rfl rfl rfl (by omega)) rfl ?_ | refine RS.pv (PV.indexAddrA tab_ok rfl rfl rfl (by omega)) rfl ?_);
            refine RS.lv (LV.load1 tab_ok rfl (Has.imm g1) rfl q1) rfl ?_;
            (all_goals refine RS.callB (inS_s _ s b _ _ _ ((hb.le hi).rd _) rfl (by omega)) rfl (by kernel_rfl) rfl (fun h => ?_) (fun h => absurd hsb h));
            (all_goals refine RS.pv (PV.all tab_ok rfl) rfl ?_);
            (all_goals refine RS.pv (PV.all tab_ok rfl) rfl ?_);
            (all_goals (first | refine RS.pv (PV.all tab_ok rfl) rfl ?_ | refine RS.skip rfl ?_));
            (all_goals (first | refine RS.pv (PV.all tab_ok rfl) rfl ?_ | refine RS.skip rfl ?_));
            (all_goals (first | refine RS.pv (PV.all tab_ok rfl) rfl ?_ | refine RS.skip rfl ?_));
            (all_goals (first | refine RS.pv (PV.indexAddr tab_ok rfl rfl rfl (by omega)) rfl ?_ | refine RS.pv (PV.indexAddrA tab_ok rfl rfl rfl (by omega)) rfl ?_ | refine RS.skip rfl ?_));
            (all_goals refine RS.skip rfl ?_);
            (all_goals refine RS.skip rfl ?_);
            (all_goals (first | refine RS.pv (PV.all tab_ok rfl) rfl ?_ | refine RS.skip rfl ?_));
            (all_goals refine RS.pv (PV.all tab_ok rfl) rfl ?_);
            (all_goals refine RS.nil ?_))
        | refine CS.ret ?_
        | refine thenQ.ret ?_
        | refine blkQ.ret ?_
        | refine retQ.ret ?_
        | refine CS.block ?_
        | refine CS.exit ?_
        | refine thenQ.exit ?_
        | refine blkQ.normal ?_
        | refine blkQ.here ?_
        | refine blkQ.past rfl ?_
        | refine retQ.normal ?_)
      exact ⟨a.length - (k + 1), by omega, k + 1, ou, oo, oc, O, rfl, hlt, hn.symm, hi, hO, rfl, rfl⟩
    · by_cases hso : s ∈ ou
      · have e : wstep b ou s = ou := by unfold wstep; rw [if_neg hsb, if_pos hso]
        rw [e] at hn
        repeat' (first
          | refine CS.seq ?_
          | refine thenQ.normal ?_
          | refine CS.cond_true rfl ?_
          | refine CS.cond_false rfl ?_
          | refine CS.skip ?_
          | (refine CS.region (id := 0) ?_;
              refine RS.pv (PV.all tab_ok rfl) rfl ?_;
              refine RS.nil ?_)
          | (refine CS.region (id := 1) ?_;
              refine RS.pv (PV.all tab_ok rfl) rfl ?_;
              refine RS.nil ?_)
          | (refine CS.region (id := 3) ?_;
              refine RS.pv (PV.all tab_ok rfl) rfl ?_;
              refine RS.pv (PV.all tab_ok rfl) rfl ?_;
              (first | refine RS.pv (PV.lenS tab_ok rfl rfl) rfl ?_ | refine RS.pv (PV.lenT tab_ok rfl rfl) rfl ?_);
              (first | refine RS.pv (PV.lssT rfl rfl (by omega)) rfl ?_ | refine RS.pv (PV.lssF rfl rfl (by omega)) rfl ?_ | refine RS.ifLss rfl rfl rfl (fun h => ?_) (fun h => ?_));
              (all_goals refine RS.nil ?_))
          | (refine CS.region (id := 4) ?_;
              refine RS.pv (PV.all tab_ok rfl) rfl ?_;
              refine RS.pv (PV.add rfl rfl (by omega)) rfl ?_;
              refine RS.pv (PV.all tab_ok rfl) rfl ?_;
              refine RS.nil ?_)
          | (refine CS.region (id := 5) ?_;
              refine RS.pv (PV.all tab_ok rfl) rfl ?_;
              refine RS.pv (PV.all tab_ok rfl) rfl ?_;
              refine RS.pv (PV.all tab_ok rfl) rfl ?_;
              (first | refine RS.pv (PV.indexAddr tab_ok rfl rfl rfl (by omega)) rfl ?_ | refine RS.pv (PV.indexAddrA tab_ok rfl rfl rfl (by omega)) rfl ?_);
              refine RS.lv (LV.load1 tab_ok rfl (Has.imm g1) rfl q1) rfl ?_;
              (all_goals refine RS.callB (inS_s _ s b _ _ _ ((hb.le hi).rd _) rfl (by omega)) rfl (by kernel_rfl) rfl (fun h => absurd h hsb) (fun h => ?_));
              (all_goals refine RS.pv (PV.all tab_ok rfl) rfl ?_);
              (all_goals refine RS.pv (PV.all tab_ok rfl) rfl ?_);
              (all_goals (first | refine RS.pv (PV.all tab_ok rfl) rfl ?_ | refine RS.skip rfl ?_));
              (all_goals (first | refine RS.pv (PV.all tab_ok rfl) rfl ?_ | refine RS.skip rfl ?_));
              (all_goals (first | refine RS.pv (PV.all tab_ok rfl) rfl ?_ | refine RS.skip rfl ?_));
              (all_goals (first | refine RS.pv (PV.indexAddr tab_ok rfl rfl rfl (by omega)) rfl ?_ | refine RS.pv (PV.indexAddrA tab_ok rfl rfl rfl (by omega)) rfl ?_ | refine RS.skip rfl ?_));
              (all_goals refine RS.lv (LV.load1 tab_ok rfl (Has.imm g1) rfl q1) rfl ?_);
              (all_goals refine RS.callB (inS_s _ s ou _ _ _ hrd rfl (by omega)) rfl (by kernel_rfl) rfl (fun h => ?_) (fun h => absurd hso h));
              (all_goals (first | refine RS.pv (PV.all tab_ok rfl) rfl ?_ | refine RS.skip rfl ?_));
              (all_goals refine RS.pv (PV.all tab_ok rfl) rfl ?_);
              (all_goals refine RS.nil ?_))
          | refine CS.ret ?_
          | refine thenQ.ret ?_
          | refine blkQ.ret ?_
          | refine retQ.ret ?_
          | refine CS.block ?_
          | refine CS.exit ?_
          | refine thenQ.exit ?_
          | refine blkQ.normal ?_
          | refine blkQ.here ?_
          | refine blkQ.past rfl ?_
          | refine retQ.normal ?_)
        exact ⟨a.length - (k + 1), by omega, k + 1, ou, oo, oc, O, rfl, hlt, hn.symm, hi, hO, rfl, rfl⟩
      · have e : wstep b ou s = ou ++ [s] := by unfold wstep; rw [if_neg hsb, if_neg hso]
        rw [e] at hn
        repeat' (first
          | refine CS.seq ?_
          | refine thenQ.normal ?_
          | refine CS.cond_true rfl ?_
          | refine CS.cond_false rfl ?_
          | refine CS.skip ?_
          | (refine CS.region (id := 0) ?_;
              refine RS.pv (PV.all tab_ok rfl) rfl ?_;
              refine RS.nil ?_)
          | (refine CS.region (id := 1) ?_;
              refine RS.pv (PV.all tab_ok rfl) rfl ?_;
              refine RS.nil ?_)
          | (refine CS.region (id := 3) ?_;
              refine RS.pv (PV.all tab_ok rfl) rfl ?_;
              refine RS.pv (PV.all tab_ok rfl) rfl ?_;
              (first | refine RS.pv (PV.lenS tab_ok rfl rfl) rfl ?_ | refine RS.pv (PV.lenT tab_ok rfl rfl) rfl ?_);
              (first | refine RS.pv (PV.lssT rfl rfl (by omega)) rfl ?_ | refine RS.pv (PV.lssF rfl rfl (by omega)) rfl ?_ | refine RS.ifLss rfl rfl rfl (fun h => ?_) (fun h => ?_));
              (all_goals refine RS.nil ?_))
          | (refine CS.region (id := 4) ?_;
              refine RS.pv (PV.all tab_ok rfl) rfl ?_;
              refine RS.pv (PV.add rfl rfl (by omega)) rfl ?_;
              refine RS.pv (PV.all tab_ok rfl) rfl ?_;
              refine RS.nil ?_)
          | (refine CS.region (id := 5) ?_;
              refine RS.pv (PV.all tab_ok rfl) rfl ?_;
              refine RS.pv (PV.all tab_ok rfl) rfl ?_;
              refine RS.pv (PV.all tab_ok rfl) rfl ?_;
              (first | refine RS.pv (PV.indexAddr tab_ok rfl rfl rfl (by omega)) rfl ?_ | refine RS.pv (PV.indexAddrA tab_ok rfl rfl rfl (by omega)) rfl ?_);
              refine RS.lv (LV.load1 tab_ok rfl (Has.imm g1) rfl q1) rfl ?_;
              (all_goals refine RS.callB (inS_s _ s b _ _ _ ((hb.le hi).rd _) rfl (by omega)) rfl (by kernel_rfl) rfl (fun h => absurd h hsb) (fun h => ?_));
              (all_goals refine RS.pv (PV.all tab_ok rfl) rfl ?_);
              (all_goals refine RS.pv (PV.all tab_ok rfl) rfl ?_);
              (all_goals (first | refine RS.pv (PV.all tab_ok rfl) rfl ?_ | refine RS.skip rfl ?_));
              (all_goals (first | refine RS.pv (PV.all tab_ok rfl) rfl ?_ | refine RS.skip rfl ?_));
              (all_goals (first | refine RS.pv (PV.all tab_ok rfl) rfl ?_ | refine RS.skip rfl ?_));
              (all_goals (first | refine RS.pv (PV.indexAddr tab_ok rfl rfl rfl (by omega)) rfl ?_ | refine RS.pv (PV.indexAddrA tab_ok rfl rfl rfl (by omega)) rfl ?_ | refine RS.skip rfl ?_));
              (all_goals refine RS.lv (LV.load1 tab_ok rfl (Has.imm g1) rfl q1) rfl ?_);
              (all_goals refine RS.callB (inS_s _ s ou _ _ _ hrd rfl (by omega)) rfl (by kernel_rfl) rfl (fun h => absurd h hso) (fun h => ?_));
              (all_goals (first | refine RS.pv (PV.all tab_ok rfl) rfl ?_ | refine RS.skip rfl ?_));
              (all_goals refine RS.pv (PV.all tab_ok rfl) rfl ?_);
              (all_goals refine RS.nil ?_))
          | (refine CS.region (id := 6) ?_;
              refine RS.pv (PV.all tab_ok rfl) rfl ?_;
              refine RS.pv (PV.all tab_ok rfl) rfl ?_;
              refine RS.pv (PV.all tab_ok rfl) rfl ?_;
              (first | refine RS.pv (PV.indexAddr tab_ok rfl rfl rfl (by omega)) rfl ?_ | refine RS.pv (PV.indexAddrA tab_ok rfl rfl rfl (by omega)) rfl ?_);
              refine RS.lv (LV.load1 tab_ok rfl (Has.imm g1) rfl q1) rfl ?_;
              (all_goals refine RS.buildSliceF tab_ok 1 rfl rfl rfl (fun bb i2 hi2 hbs => ?_));
              (all_goals (refine RS.append tab_ok (sz := 1) (bytes := 16) (k := ou.length) (m := 1) (xs := strs ou) (news := [.string s]) rfl rfl rfl ⟨_, rfl, rfl⟩ ⟨_, rfl, rfl, rfl⟩ (by omega) hO rfl (hbs.rd _) (by intro c hc; simp at hc; subst hc; rfl) (by omega) (by omega) ?_; intro v' O' hO' hnil; obtain ⟨ao', cap', rfl⟩ := SlO.shape hO'));
              (all_goals refine RS.pv (PV.all tab_ok rfl) rfl ?_);
              (all_goals refine RS.nil ?_))
          | refine CS.ret ?_
          | refine thenQ.ret ?_
          | refine blkQ.ret ?_
          | refine retQ.ret ?_
          | refine CS.block ?_
          | refine CS.exit ?_
          | refine thenQ.exit ?_
          | refine blkQ.normal ?_
          | refine blkQ.here ?_
          | refine blkQ.past rfl ?_
          | refine retQ.normal ?_)
        exact ⟨a.length - (k + 1), by omega, k + 1, ou ++ [s], ao', cap', O', rfl, hlt, hn.symm, hi.trans hi2, by rw [strs_snoc, List.length_append]; exact hO', by rw [List.length_append]; rfl, rfl⟩
  · have hke : k = a.length := by omega
    subst hke
    rw [List.take_length] at hou
    subst hou
    repeat' (first
      | refine CS.seq ?_
      | refine thenQ.normal ?_
      | refine CS.cond_true rfl ?_
      | refine CS.cond_false rfl ?_
      | refine CS.skip ?_
      | (refine CS.region (id := 0) ?_;
          refine RS.pv (PV.all tab_ok rfl) rfl ?_;
          refine RS.nil ?_)
      | (refine CS.region (id := 1) ?_;
          refine RS.pv (PV.all tab_ok rfl) rfl ?_;
          refine RS.nil ?_)
      | (refine CS.region (id := 3) ?_;
          refine RS.pv (PV.all tab_ok rfl) rfl ?_;
          refine RS.pv (PV.all tab_ok rfl) rfl ?_;
          (first | refine RS.pv (PV.lenS tab_ok rfl rfl) rfl ?_ | refine RS.pv (PV.lenT tab_ok rfl rfl) rfl ?_);
          (first | refine RS.pv (PV.lssT rfl rfl (by omega)) rfl ?_ | refine RS.pv (PV.lssF rfl rfl (by omega)) rfl ?_ | refine RS.ifLss rfl rfl rfl (fun h => ?_) (fun h => ?_));
          (all_goals refine RS.nil ?_))
      | (refine CS.region (id := 7) ?_;
          refine RS.pv (PV.all tab_ok rfl) rfl ?_;
          refine RS.pv (PV.all tab_ok rfl) rfl ?_;
          refine RS.nil ?_)
      | refine CS.ret ?_
      | refine thenQ.ret ?_
      | refine blkQ.ret ?_
      | refine retQ.ret ?_
      | refine CS.block ?_
      | refine CS.exit ?_
      | refine thenQ.exit ?_
      | refine blkQ.normal ?_
      | refine blkQ.here ?_
      | refine blkQ.past rfl ?_
      | refine retQ.normal ?_)
    exact ⟨O, hO, rfl⟩
end Go.Proofs.Ytmcajldlcomegaa
