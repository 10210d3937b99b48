/- Plain laws: the lists without; sets. -/
import Derived.Test.YtmcajldlcomegaaW37
namespace Go.Proofs.Ytmcajldlcomegaa
open Go Go.Eng

theorem wout_mem {a b : List ByteArray} {s : ByteArray} : s ∈ wout a b ↔ s ∈ a ∧ s ∉ b := by
  have key : ∀ (a acc : List ByteArray), s ∈ a.foldl (wstep b) acc ↔ s ∈ acc ∨ (s ∈ a ∧ s ∉ b) := by
    intro a
    induction a with
    | nil => intro acc; simp
    | cons x a ih =>
      intro acc
      rw [List.foldl_cons, ih]
      unfold wstep
      by_cases h1 : x ∈ b
      · rw [if_pos h1]
        constructor
        · rintro (h | h)
          · exact .inl h
          · exact .inr ⟨List.mem_cons_of_mem _ h.1, h.2⟩
        · rintro (h | ⟨h, h'⟩)
          · exact .inl h
          · rcases List.mem_cons.1 h with rfl | h
            · exact absurd h1 h'
            · exact .inr ⟨h, h'⟩
      · rw [if_neg h1]
        by_cases h2 : x ∈ acc
        · rw [if_pos h2]
          constructor
          · rintro (h | h)
            · exact .inl h
            · exact .inr ⟨List.mem_cons_of_mem _ h.1, h.2⟩
          · rintro (h | ⟨h, h'⟩)
            · exact .inl h
            · rcases List.mem_cons.1 h with rfl | h
              · exact .inl h2
              · exact .inr ⟨h, h'⟩
        · rw [if_neg h2, List.mem_append, List.mem_singleton]
          constructor
          · rintro ((h | rfl) | h)
            · exact .inl h
            · exact .inr ⟨List.mem_cons_self .., h1⟩
            · exact .inr ⟨List.mem_cons_of_mem _ h.1, h.2⟩
          · rintro (h | ⟨h, h'⟩)
            · exact .inl (.inl h)
            · rcases List.mem_cons.1 h with rfl | h
              · exact .inl (.inr rfl)
              · exact .inr ⟨h, h'⟩
  have := key a []
  simpa [wout] using this
theorem wout_nodup (a b : List ByteArray) : (wout a b).Nodup := by
  have key : ∀ (a acc : List ByteArray), acc.Nodup → (a.foldl (wstep b) acc).Nodup := by
    intro a
    induction a with
    | nil => intro acc h; exact h
    | cons x a ih =>
      intro acc h
      rw [List.foldl_cons]
      refine ih _ ?_
      unfold wstep
      by_cases h1 : x ∈ b
      · rw [if_pos h1]; exact h
      · rw [if_neg h1]
        by_cases h2 : x ∈ acc
        · rw [if_pos h2]; exact h
        · rw [if_neg h2, List.nodup_append]
          refine ⟨h, by simp, fun p hp q hq => ?_⟩
          rw [List.mem_singleton.1 hq]
          rintro rfl
          exact h2 hp
  exact key a [] List.nodup_nil
theorem wout_self (a : List ByteArray) : wout a a = [] := by
  cases h : wout a a with
  | nil => rfl
  | cons x l =>
    have : x ∈ wout a a := by rw [h]; exact List.mem_cons_self ..
    obtain ⟨h1, h2⟩ := wout_mem.1 this
    exact absurd h1 h2
theorem nodup_at {l : List ByteArray} (hn : l.Nodup) {j : Nat} {a : ByteArray} (h : l[j]? = some a) : a ∉ l.take j := by
  obtain ⟨A, B, rfl, rfl, _⟩ := split_at h
  rw [List.take_left]
  intro hm
  have := List.nodup_append.1 hn
  exact this.2.2 a hm a (List.mem_cons_self ..) rfl
theorem nodup_erase {l : List ByteArray} (hn : l.Nodup) {j : Nat} {a : ByteArray} (h : l[j]? = some a) : (l.eraseIdx j).Nodup ∧ ∀ k, k ∈ l.eraseIdx j ↔ k ∈ l ∧ k ≠ a := by
  obtain ⟨A, B, rfl, rfl, _⟩ := split_at h
  have e : (A ++ a :: B).eraseIdx A.length = A ++ B := by
    rw [List.eraseIdx_append_of_length_le (Nat.le_refl _), Nat.sub_self]; rfl
  rw [e]
  obtain ⟨h1, h2, h3⟩ := List.nodup_append.1 hn
  obtain ⟨h4, h5⟩ := List.nodup_cons.1 h2
  refine ⟨List.nodup_append.2 ⟨h1, h5, fun x hx y hy => h3 x hx y (List.mem_cons_of_mem _ hy)⟩, fun k => ?_⟩
  rw [List.mem_append, List.mem_append, List.mem_cons]
  constructor
  · rintro (hk | hk)
    · exact ⟨.inl hk, fun e => h3 k hk a (List.mem_cons_self ..) e⟩
    · exact ⟨.inr (.inr hk), by rintro rfl; exact h4 hk⟩
  · rintro ⟨hk | hk | hk, hne⟩
    · exact .inl hk
    · exact absurd hk hne
    · exact .inr hk
theorem nodup_len {l m : List ByteArray} (hl : l.Nodup) (hm : m.Nodup) (h : ∀ k, k ∈ l ↔ k ∈ m) : l.length = m.length := by
  have key : ∀ (l m : List ByteArray), l.Nodup → (∀ k, k ∈ l → k ∈ m) → l.length ≤ m.length := by
    intro l
    induction l with
    | nil => intro m _ _; simp
    | cons x l ih =>
      intro m hn hs
      obtain ⟨h1, h2⟩ := List.nodup_cons.1 hn
      obtain ⟨A, B, rfl⟩ := List.append_of_mem (hs x (List.mem_cons_self ..))
      have := ih (A ++ B) h2 fun k hk => by
        have := hs k (List.mem_cons_of_mem _ hk)
        rw [List.mem_append, List.mem_cons] at this
        rw [List.mem_append]
        rcases this with h | rfl | h
        · exact .inl h
        · exact absurd hk h1
        · exact .inr h
      simp only [List.length_append, List.length_cons] at this ⊢
      omega
  have h1 := key l m hl fun k hk => (h k).1 hk
  have h2 := key m l hm fun k hk => (h k).2 hk
  omega
theorem keysS_erase (ks : List KE) (j : Nat) : keysS (ks.eraseIdx j) = (keysS ks).eraseIdx j := (map_eraseIdx' _ _ _).symm
theorem keysS_snoc (ks : List KE) (a : ByteArray) (c : Nat) : keysS (ks ++ [(a, c)]) = keysS ks ++ [a] := by simp [keysS]
theorem mem_take_succ {l : List ByteArray} {j : Nat} {a k : ByteArray} (h : l[j]? = some a) : k ∈ l.take (j + 1) ↔ k ∈ l.take j ∨ k = a := by
  rw [List.take_add_one, h]; simp
theorem CS.named {P : Program} {n : Nat} {c : Code} {f : Fr} {i : Imm} {L : SH} {Q : Ex → Fr → Imm → SH → Prop} (h : ∀ f', f' = f → CS P n c f' i L Q) : CS P n c f i L Q := h f rfl
def xS (b : Bool) (p : Nat × Obj) : SH := match b with | true => [p] | false => []
section
variable {P : Program} {n : Nat} {f : Fr} {dst : Option Nat} {ty : TypeId} {pos : String} {aft : Array Edge} {gd : Option (Nat × Bool)} {t t2 : Nat} {x y : Operand}
theorem PV.sadd {p q : ByteArray} (hx : ev n f x = .string p) (hy : ev n f y = .string q) (h : p.size + q.size ≤ 9223372036854775807) : PV P n f ⟨dst, .binOp .add t x y t2, ty, pos, aft, gd⟩ (.string (p ++ q)) := by
  unfold PV; intro w
  simp only [execOp, hx, hy, eqGuard, binOp, Op.stringOp]
  simp
  omega
end
theorem Path_s (tp k : Nat) (lv : Value) (at_ : Int) (i : Imm) (L : SH) (hl : IntSl i lv) (ha : 0 ≤ at_ ∧ at_ ≤ 100000000) (hk : L[k]? = some (tp, tapeO lv at_)) :
    FnS Try.prog 32 [.pointer (some ⟨tp, 0, none⟩)] i L fun v _ L' => ∃ s at', v = .string s ∧ at_ ≤ at' ∧ at' ≤ at_ + 4 ∧ L' = L.set k (tp, tapeO lv at') := by
  refine (FnS.tapeK (φ := fun v _ o' => ∃ s at', v = .string s ∧ at_ ≤ at' ∧ at' ≤ at_ + 4 ∧ o' = tapeO lv at') hk fun R => ?_).mono fun v i' L' _ ⟨o', ⟨s, at', h1, h2, h3, h4⟩, h5⟩ => ⟨s, at', h1, h2, h3, by rw [h5, h4]⟩
  refine FnS.intro1 Try.func32 rfl Try.ntmps32 (by simp) Try.results32 ?_
  repeat' (first
    | refine CS.seq ?_
    | refine thenQ.normal ?_
    | refine CS.cond_true rfl ?_
    | refine CS.cond_false rfl ?_
    | refine CS.skip ?_
    | (refine CS.region (id := 0) ?_;
        refine RS.pv (PV.all tab_ok rfl) rfl ?_;
        refine RS.nil ?_)
    | (refine CS.region (id := 1) ?_;
        refine RS.pv (PV.all tab_ok rfl) rfl ?_;
        refine RS.nil ?_)
    | (refine CS.region (id := 2) ?_;
        refine RS.pv (PV.all tab_ok rfl) rfl ?_;
        (refine RS.call (Next_s tp 0 lv at_ 3 _ _ (by omega) hl (by omega) rfl) rfl (by kernel_rfl) rfl ?_; rintro v i3 L3 hi3 ⟨⟨x, rfl⟩, rfl, rfl⟩; have hx := foldI_bd x (n := 3) (by omega));
        (all_goals refine RS.pv (PV.add rfl rfl (by omega)) rfl ?_);
        (all_goals refine RS.pv (PV.all tab_ok rfl) rfl ?_);
        (all_goals refine RS.nil ?_))
    | refine CS.ret ?_
    | refine thenQ.ret ?_
    | refine blkQ.ret ?_
    | refine retQ.ret ?_
    | refine CS.block ?_
    | refine CS.exit ?_
    | refine thenQ.exit ?_
    | refine blkQ.normal ?_
    | refine blkQ.here ?_
    | refine blkQ.past rfl ?_
    | refine retQ.normal ?_)
  obtain ⟨n, hn⟩ : ∃ n : Nat, 1 + foldI x 3 = n := ⟨(1 + foldI x 3).toNat, by omega⟩
  rw [hn]
  refine CS.loop [0, 3, 4] (fun m vs i' L' => ∃ (s : ByteArray) (at' : Int), m ≤ n ∧ s.size ≤ 10 * (3 - m) ∧ IntSl i' lv ∧ at_ ≤ at' ∧ at' ≤ at_ + 4 - m ∧ vs = [.pointer (some ⟨tp, 0, none⟩), .string s, .int .i64 (m : Int)] ∧ L' = (tp, tapeO lv at') :: R) n ⟨ByteArray.empty, at_ + 1, Nat.le_refl _, Nat.zero_le _, hl, by omega, by omega, rfl, rfl⟩ ?_
  rintro m g vs i' L' _ ⟨s, at', hm, hs, hl, ha1, ha2, rfl, rfl⟩
  by_cases hlt : 0 < m
  · repeat' (first
      | refine CS.seq ?_
      | refine thenQ.normal ?_
      | refine CS.cond_true rfl ?_
      | refine CS.cond_false rfl ?_
      | refine CS.skip ?_
      | (refine CS.region (id := 0) ?_;
          refine RS.pv (PV.all tab_ok rfl) rfl ?_;
          refine RS.nil ?_)
      | (refine CS.region (id := 1) ?_;
          refine RS.pv (PV.all tab_ok rfl) rfl ?_;
          refine RS.nil ?_)
      | (refine CS.region (id := 3) ?_;
          refine RS.pv (PV.all tab_ok rfl) rfl ?_;
          (first | refine RS.pv (PV.gtrT rfl rfl (by omega)) rfl ?_ | refine RS.pv (PV.gtrF rfl rfl (by omega)) rfl ?_ | refine RS.ifGtr rfl rfl rfl (fun h => ?_) (fun h => ?_));
          (all_goals refine RS.nil ?_))
      | (refine CS.region (id := 4) ?_;
          refine RS.pv (PV.all tab_ok rfl) rfl ?_;
          refine RS.pv (PV.sub rfl rfl (by omega)) rfl ?_;
          refine RS.pv (PV.all tab_ok rfl) rfl ?_;
          refine RS.nil ?_)
      | (refine CS.region (id := 5) ?_;
          refine RS.pv (PV.all tab_ok rfl) rfl ?_;
          refine RS.pv (PV.all tab_ok rfl) rfl ?_;
          (refine RS.buildStrsF tab_ok rfl rfl rfl rfl (fun bb i2 hi2 hbs => ?_); replace hl := hl.le hi2);
          (all_goals (refine RS.call (One_s tp 0 lv _ at' _ _ _ _ hl (by omega) rfl hbs rfl (by decide) (by unfold lenOk; omega)) rfl (by kernel_rfl) rfl ?_; rintro v i3 L3 hi3 ⟨⟨nm, hnm, rfl⟩, rfl, rfl⟩; have hnl : nm.size ≤ 8 := (by simp at hnm; rcases hnm with rfl | rfl | rfl | rfl | rfl | rfl | rfl <;> decide)));
          (all_goals refine RS.pv (PV.sadd rfl rfl (by show 1 + nm.size ≤ _; omega)) rfl ?_);
          (all_goals refine RS.pv (PV.sadd rfl rfl (by rw [ByteArray.size_append]; show _ + (1 + nm.size) ≤ _; omega)) rfl ?_);
          (all_goals refine RS.pv (PV.all tab_ok rfl) rfl ?_);
          (all_goals refine RS.nil ?_))
      | refine CS.ret ?_
      | refine thenQ.ret ?_
      | refine blkQ.ret ?_
      | refine retQ.ret ?_
      | refine CS.block ?_
      | refine CS.exit ?_
      | refine thenQ.exit ?_
      | refine blkQ.normal ?_
      | refine blkQ.here ?_
      | refine blkQ.past rfl ?_
      | refine retQ.normal ?_)
    exact ⟨m - 1, by omega, s ++ (⟨#[47]⟩ ++ nm), at' + 1, by omega, by rw [ByteArray.size_append, ByteArray.size_append]; show s.size + (1 + nm.size) ≤ _; omega, hl, by omega, by omega, by rw [show ((m - 1 : Nat) : Int) = (m : Int) - 1 by omega]; rfl, rfl⟩
  · repeat' (first
      | refine CS.seq ?_
      | refine thenQ.normal ?_
      | refine CS.cond_true rfl ?_
      | refine CS.cond_false rfl ?_
      | refine CS.skip ?_
      | (refine CS.region (id := 0) ?_;
          refine RS.pv (PV.all tab_ok rfl) rfl ?_;
          refine RS.nil ?_)
      | (refine CS.region (id := 1) ?_;
          refine RS.pv (PV.all tab_ok rfl) rfl ?_;
          refine RS.nil ?_)
      | (refine CS.region (id := 3) ?_;
          refine RS.pv (PV.all tab_ok rfl) rfl ?_;
          (first | refine RS.pv (PV.gtrT rfl rfl (by omega)) rfl ?_ | refine RS.pv (PV.gtrF rfl rfl (by omega)) rfl ?_ | refine RS.ifGtr rfl rfl rfl (fun h => ?_) (fun h => ?_));
          (all_goals refine RS.nil ?_))
      | (refine CS.region (id := 6) ?_;
          refine RS.pv (PV.all tab_ok rfl) rfl ?_;
          refine RS.pv (PV.all tab_ok rfl) rfl ?_;
          refine RS.nil ?_)
      | refine CS.ret ?_
      | refine thenQ.ret ?_
      | refine blkQ.ret ?_
      | refine retQ.ret ?_
      | refine CS.block ?_
      | refine CS.exit ?_
      | refine thenQ.exit ?_
      | refine blkQ.normal ?_
      | refine blkQ.here ?_
      | refine blkQ.past rfl ?_
      | refine retQ.normal ?_)
    exact ⟨_, ⟨s, at', rfl, ha1, by omega, rfl⟩, rfl⟩
end Go.Proofs.Ytmcajldlcomegaa
