/- RescanCompares, part 2: rows of elements, slices.Backward, rescan.first. -/
import Derived.Test.YtmcajldlcomegaaW44
import Derived.Test.YtmcajldlcomegaaEng17
namespace Go.Proofs.Ytmcajldlcomegaa
open Go Go.Eng

/-! ### rows of elements -/
section
variable {E : Type}
/-- the cells of a row -/
def rowC (cl : E → List Value) (es : List E) : List Value := es.flatMap cl
theorem rowC_len {cl : E → List Value} {sz : Nat} : ∀ {es : List E}, (∀ e ∈ es, (cl e).length = sz) → (rowC cl es).length = es.length * sz
  | [], _ => by simp [rowC]
  | e :: es, h => by
    have ih := rowC_len (es := es) fun x hx => h x (List.mem_cons_of_mem _ hx)
    have h0 := h e (List.mem_cons_self ..)
    have : rowC cl (e :: es) = cl e ++ rowC cl es := rfl
    rw [this, List.length_append, ih, h0, List.length_cons, Nat.succ_mul]
    omega
theorem rowC_at {cl : E → List Value} {sz : Nat} {es : List E} (h : ∀ e ∈ es, (cl e).length = sz) {k : Nat} {e : E} (hk : es[k]? = some e) (d : Nat) (hd : d < sz) : (rowC cl es)[k * sz + d]? = (cl e)[d]? := by
  obtain ⟨A, B, he, hA⟩ : ∃ A B, es = A ++ e :: B ∧ A.length = k := by
    obtain ⟨hk, hx⟩ := List.getElem?_eq_some_iff.1 hk
    exact ⟨es.take k, es.drop (k + 1), by rw [← hx, List.getElem_cons_drop]; exact (List.take_append_drop k es).symm, by simp; omega⟩
  subst hA
  have e2 : rowC cl es = rowC cl A ++ (cl e ++ rowC cl B) := by rw [he]; simp [rowC]
  have hl : (rowC cl A).length = A.length * sz := rowC_len fun x hx => h x (by rw [he]; simp [hx])
  rw [e2, List.getElem?_append_right (by omega), hl, Nat.add_sub_cancel_left, List.getElem?_append_left]
  rw [h e (by rw [he]; simp)]; exact hd
/-- the first element of a name -/
def firstE (nm : E → ByteArray) (es : List E) (a : ByteArray) : Option E := es.find? fun e => decide (nm e = a)
theorem firstE_cons (nm : E → ByteArray) (e : E) (es : List E) (a : ByteArray) : firstE nm (e :: es) a = if a = nm e then some e else firstE nm es a := by
  unfold firstE
  rw [List.find?_cons]
  by_cases h : a = nm e
  · subst h; simp
  · rw [if_neg h]
    have : decide (nm e = a) = false := decide_eq_false fun k => h k.symm
    rw [this]
theorem firstE_mem {nm : E → ByteArray} {es : List E} {a : ByteArray} {e : E} (h : firstE nm es a = some e) : e ∈ es ∧ nm e = a :=
  ⟨List.mem_of_find?_eq_some h, by simpa using List.find?_some h⟩
theorem firstE_none {nm : E → ByteArray} {es : List E} {a : ByteArray} : firstE nm es a = none ↔ a ∉ es.map nm := by
  unfold firstE
  rw [List.find?_eq_none]
  simp
/-- what a walk from the back hands over -/
def bw (vl : E → Value) (es : List E) : List (List Value) := (List.range es.length).map fun k => [.int .i64 ((es.length - 1 - k : Nat) : Int), ((es[es.length - 1 - k]?).map vl).getD undef]
theorem bw_len (vl : E → Value) (es : List E) : (bw vl es).length = es.length := by simp [bw]
theorem bw_at {vl : E → Value} {es : List E} {k : Nat} (hk : k < es.length) {e : E} (he : es[es.length - 1 - k]? = some e) : (bw vl es)[k]? = some [.int .i64 ((es.length - 1 - k : Nat) : Int), vl e] := by
  simp [bw, hk, he]
theorem bw_inv {vl : E → Value} {es : List E} {k : Nat} {d : List Value} (h : (bw vl es)[k]? = some d) : k < es.length ∧ ∃ e, es[es.length - 1 - k]? = some e ∧ d = [.int .i64 ((es.length - 1 - k : Nat) : Int), vl e] := by
  have hk : k < es.length := by have := (List.getElem?_eq_some_iff.1 h).1; rwa [bw_len] at this
  obtain ⟨e, he⟩ : ∃ e, es[es.length - 1 - k]? = some e := ⟨_, List.getElem?_eq_getElem (by omega)⟩
  rw [bw_at hk he] at h
  exact ⟨hk, e, he, (Option.some.inj h).symm⟩
end
theorem drop_pred {E : Type} {es : List E} {k : Nat} {e : E} (hk : k < es.length) (he : es[es.length - 1 - k]? = some e) : es.drop (es.length - (k + 1)) = e :: es.drop (es.length - k) := by
  have h1 : es.length - (k + 1) = es.length - 1 - k := by omega
  rw [h1]
  obtain ⟨h2, h3⟩ := List.getElem?_eq_some_iff.1 he
  rw [List.drop_eq_getElem_cons h2, h3]
  congr 2
  omega

/-! ### slices.Backward -/
theorem Backward_105 (ao : Option Addr) (n cap : Nat) (i : Imm) (L : SH) : FnS Try.prog 105 [.slice ao n cap] i L fun v i' L' => L' = L ∧ ∃ b, v = .func (.func 114) #[] #[.pointer (some ⟨b, 0, none⟩)] ∧ i'.blk b = some (.cells (List.toArray [.slice ao n cap]) 73 (0, 0)) := by
  refine FnS.state (K := fun v i' L' => ∃ b, v = .func (.func 114) #[] #[.pointer (some ⟨b, 0, none⟩)] ∧ L' = (b, .cells (List.toArray [.slice ao n cap]) 73 (0, 0)) :: L) ?_ ?_
  rotate_left
  · rintro v i' L' w _ hs ⟨b, rfl, rfl⟩
    obtain ⟨h1, h2⟩ := hs.freeze
    exact ⟨_, _, h1, h2, rfl, b, rfl, by simp [Imm.add]⟩
  refine FnS.intro1 Try.func105 rfl Try.ntmps105 (by simp) Try.results105 ?_
  repeat' (first
    | refine CS.seq ?_
    | refine thenQ.normal ?_
    | refine CS.cond_true rfl ?_
    | refine CS.cond_false rfl ?_
    | refine CS.skip ?_
    | (refine CS.region (id := 0) ?_;
        refine RS.box rfl rfl (fun b => ?_);
        refine RS.pv (PV.all tab_ok rfl) rfl ?_;
        refine RS.nil ?_)
    | refine CS.ret ?_
    | refine thenQ.ret ?_
    | refine blkQ.ret ?_
    | refine retQ.ret ?_
    | refine CS.block ?_
    | refine CS.exit ?_
    | refine thenQ.exit ?_
    | refine blkQ.normal ?_
    | refine blkQ.here ?_
    | refine blkQ.past rfl ?_
    | refine retQ.normal ?_)
  refine CS.region (id := 1) ?_
  refine RS.pv PV.makeFunc rfl ?_
  refine RS.pv (PV.all tab_ok rfl) rfl ?_
  refine RS.nil ?_
  refine thenQ.normal ?_
  refine CS.ret ?_
  refine retQ.ret ?_
  exact ⟨_, rfl, rfl⟩
theorem Backward_109 (ao : Option Addr) (n cap : Nat) (i : Imm) (L : SH) : FnS Try.prog 109 [.slice ao n cap] i L fun v i' L' => L' = L ∧ ∃ b, v = .func (.func 118) #[] #[.pointer (some ⟨b, 0, none⟩)] ∧ i'.blk b = some (.cells (List.toArray [.slice ao n cap]) 74 (0, 0)) := by
  refine FnS.state (K := fun v i' L' => ∃ b, v = .func (.func 118) #[] #[.pointer (some ⟨b, 0, none⟩)] ∧ L' = (b, .cells (List.toArray [.slice ao n cap]) 74 (0, 0)) :: L) ?_ ?_
  rotate_left
  · rintro v i' L' w _ hs ⟨b, rfl, rfl⟩
    obtain ⟨h1, h2⟩ := hs.freeze
    exact ⟨_, _, h1, h2, rfl, b, rfl, by simp [Imm.add]⟩
  refine FnS.intro1 Try.func109 rfl Try.ntmps109 (by simp) Try.results109 ?_
  repeat' (first
    | refine CS.seq ?_
    | refine thenQ.normal ?_
    | refine CS.cond_true rfl ?_
    | refine CS.cond_false rfl ?_
    | refine CS.skip ?_
    | (refine CS.region (id := 0) ?_;
        refine RS.box rfl rfl (fun b => ?_);
        refine RS.pv (PV.all tab_ok rfl) rfl ?_;
        refine RS.nil ?_)
    | refine CS.ret ?_
    | refine thenQ.ret ?_
    | refine blkQ.ret ?_
    | refine retQ.ret ?_
    | refine CS.block ?_
    | refine CS.exit ?_
    | refine thenQ.exit ?_
    | refine blkQ.normal ?_
    | refine blkQ.here ?_
    | refine blkQ.past rfl ?_
    | refine retQ.normal ?_)
  refine CS.region (id := 1) ?_
  refine RS.pv PV.makeFunc rfl ?_
  refine RS.pv (PV.all tab_ok rfl) rfl ?_
  refine RS.nil ?_
  refine thenQ.normal ?_
  refine CS.ret ?_
  refine retQ.ret ?_
  exact ⟨_, rfl, rfl⟩
theorem Backward_110 (ao : Option Addr) (n cap : Nat) (i : Imm) (L : SH) : FnS Try.prog 110 [.slice ao n cap] i L fun v i' L' => L' = L ∧ ∃ b, v = .func (.func 119) #[] #[.pointer (some ⟨b, 0, none⟩)] ∧ i'.blk b = some (.cells (List.toArray [.slice ao n cap]) 75 (0, 0)) := by
  refine FnS.state (K := fun v i' L' => ∃ b, v = .func (.func 119) #[] #[.pointer (some ⟨b, 0, none⟩)] ∧ L' = (b, .cells (List.toArray [.slice ao n cap]) 75 (0, 0)) :: L) ?_ ?_
  rotate_left
  · rintro v i' L' w _ hs ⟨b, rfl, rfl⟩
    obtain ⟨h1, h2⟩ := hs.freeze
    exact ⟨_, _, h1, h2, rfl, b, rfl, by simp [Imm.add]⟩
  refine FnS.intro1 Try.func110 rfl Try.ntmps110 (by simp) Try.results110 ?_
  repeat' (first
    | refine CS.seq ?_
    | refine thenQ.normal ?_
    | refine CS.cond_true rfl ?_
    | refine CS.cond_false rfl ?_
    | refine CS.skip ?_
    | (refine CS.region (id := 0) ?_;
        refine RS.box rfl rfl (fun b => ?_);
        refine RS.pv (PV.all tab_ok rfl) rfl ?_;
        refine RS.nil ?_)
    | refine CS.ret ?_
    | refine thenQ.ret ?_
    | refine blkQ.ret ?_
    | refine retQ.ret ?_
    | refine CS.block ?_
    | refine CS.exit ?_
    | refine thenQ.exit ?_
    | refine blkQ.normal ?_
    | refine blkQ.here ?_
    | refine blkQ.past rfl ?_
    | refine retQ.normal ?_)
  refine CS.region (id := 1) ?_
  refine RS.pv PV.makeFunc rfl ?_
  refine RS.pv (PV.all tab_ok rfl) rfl ?_
  refine RS.nil ?_
  refine thenQ.normal ?_
  refine CS.ret ?_
  refine retQ.ret ?_
  exact ⟨_, rfl, rfl⟩
theorem Backward_111 (ao : Option Addr) (n cap : Nat) (i : Imm) (L : SH) : FnS Try.prog 111 [.slice ao n cap] i L fun v i' L' => L' = L ∧ ∃ b, v = .func (.func 120) #[] #[.pointer (some ⟨b, 0, none⟩)] ∧ i'.blk b = some (.cells (List.toArray [.slice ao n cap]) 33 (0, 0)) := by
  refine FnS.state (K := fun v i' L' => ∃ b, v = .func (.func 120) #[] #[.pointer (some ⟨b, 0, none⟩)] ∧ L' = (b, .cells (List.toArray [.slice ao n cap]) 33 (0, 0)) :: L) ?_ ?_
  rotate_left
  · rintro v i' L' w _ hs ⟨b, rfl, rfl⟩
    obtain ⟨h1, h2⟩ := hs.freeze
    exact ⟨_, _, h1, h2, rfl, b, rfl, by simp [Imm.add]⟩
  refine FnS.intro1 Try.func111 rfl Try.ntmps111 (by simp) Try.results111 ?_
  repeat' (first
    | refine CS.seq ?_
    | refine thenQ.normal ?_
    | refine CS.cond_true rfl ?_
    | refine CS.cond_false rfl ?_
    | refine CS.skip ?_
    | (refine CS.region (id := 0) ?_;
        refine RS.box rfl rfl (fun b => ?_);
        refine RS.pv (PV.all tab_ok rfl) rfl ?_;
        refine RS.nil ?_)
    | refine CS.ret ?_
    | refine thenQ.ret ?_
    | refine blkQ.ret ?_
    | refine retQ.ret ?_
    | refine CS.block ?_
    | refine CS.exit ?_
    | refine thenQ.exit ?_
    | refine blkQ.normal ?_
    | refine blkQ.here ?_
    | refine blkQ.past rfl ?_
    | refine retQ.normal ?_)
  refine CS.region (id := 1) ?_
  refine RS.pv PV.makeFunc rfl ?_
  refine RS.pv (PV.all tab_ok rfl) rfl ?_
  refine RS.nil ?_
  refine thenQ.normal ?_
  refine CS.ret ?_
  refine retQ.ret ?_
  exact ⟨_, rfl, rfl⟩
theorem Backward_112 (ao : Option Addr) (n cap : Nat) (i : Imm) (L : SH) : FnS Try.prog 112 [.slice ao n cap] i L fun v i' L' => L' = L ∧ ∃ b, v = .func (.func 121) #[] #[.pointer (some ⟨b, 0, none⟩)] ∧ i'.blk b = some (.cells (List.toArray [.slice ao n cap]) 34 (0, 0)) := by
  refine FnS.state (K := fun v i' L' => ∃ b, v = .func (.func 121) #[] #[.pointer (some ⟨b, 0, none⟩)] ∧ L' = (b, .cells (List.toArray [.slice ao n cap]) 34 (0, 0)) :: L) ?_ ?_
  rotate_left
  · rintro v i' L' w _ hs ⟨b, rfl, rfl⟩
    obtain ⟨h1, h2⟩ := hs.freeze
    exact ⟨_, _, h1, h2, rfl, b, rfl, by simp [Imm.add]⟩
  refine FnS.intro1 Try.func112 rfl Try.ntmps112 (by simp) Try.results112 ?_
  repeat' (first
    | refine CS.seq ?_
    | refine thenQ.normal ?_
    | refine CS.cond_true rfl ?_
    | refine CS.cond_false rfl ?_
    | refine CS.skip ?_
    | (refine CS.region (id := 0) ?_;
        refine RS.box rfl rfl (fun b => ?_);
        refine RS.pv (PV.all tab_ok rfl) rfl ?_;
        refine RS.nil ?_)
    | refine CS.ret ?_
    | refine thenQ.ret ?_
    | refine blkQ.ret ?_
    | refine retQ.ret ?_
    | refine CS.block ?_
    | refine CS.exit ?_
    | refine thenQ.exit ?_
    | refine blkQ.normal ?_
    | refine blkQ.here ?_
    | refine blkQ.past rfl ?_
    | refine retQ.normal ?_)
  refine CS.region (id := 1) ?_
  refine RS.pv PV.makeFunc rfl ?_
  refine RS.pv (PV.all tab_ok rfl) rfl ?_
  refine RS.nil ?_
  refine thenQ.normal ?_
  refine CS.ret ?_
  refine retQ.ret ?_
  exact ⟨_, rfl, rfl⟩
theorem Iter_114 {E : Type} (cl : E → List Value) (es : List E) (ao : Option Addr) (cap b : Nat) (i : Imm) (hcl : ∀ e ∈ es, (cl e).length = 12) (hs : Sl i (.slice ao es.length cap) 12 es.length (rowC cl es)) (hn : es.length ≤ 10000000000000)
    (hb : i.blk b = some (.cells (List.toArray [.slice ao es.length cap]) 73 (0, 0))) : IterS Try.prog 114 [.pointer (some ⟨b, 0, none⟩)] (bw (fun e => .agg (cl e).toArray) es) i := by
  intro i0 hi0 l J hy L R hJ
  replace hs := hs.le hi0
  replace hb := hi0.blk _ _ hb
  refine FnS.intro0 Try.func114 rfl Try.ntmps114 (by simp) Try.results114 ?_
  repeat' (first
    | refine CS.seq ?_
    | refine thenQ.normal ?_
    | refine CS.cond_true rfl ?_
    | refine CS.cond_false rfl ?_
    | refine CS.skip ?_
    | (refine CS.region (id := 0) ?_;
        refine RS.lv (LV.load tab_ok rfl (Has.imm hb) rfl) rfl ?_;
        (first | refine RS.pv (PV.lenS tab_ok rfl rfl) rfl ?_ | refine RS.pv (PV.lenT tab_ok rfl rfl) rfl ?_);
        refine RS.pv (PV.sub rfl rfl (by omega)) rfl ?_;
        refine RS.pv (PV.all tab_ok rfl) rfl ?_;
        refine RS.nil ?_)
    | refine CS.ret ?_
    | refine thenQ.ret ?_
    | refine blkQ.ret ?_
    | refine retQ.ret ?_
    | refine CS.block ?_
    | refine CS.exit ?_
    | refine thenQ.exit ?_
    | refine blkQ.normal ?_
    | refine blkQ.here ?_
    | refine blkQ.past rfl ?_
    | refine retQ.normal ?_)
  refine CS.loop [0, 1, 3] (fun m vs i' L' => ∃ (k : Nat) (j : Int) (L1 : SH), m = es.length - k ∧ k ≤ es.length ∧ j = (es.length : Int) - 1 - k ∧ vs = [.func (.yield l) #[] #[], .pointer (some ⟨b, 0, none⟩), .int .i64 j] ∧ L' = L1 ++ R ∧ J k i' L1) es.length ⟨0, (es.length : Int) - 1, L, rfl, Nat.zero_le _, by omega, rfl, rfl, hJ⟩ ?_
  rintro m g vs i' L' hi ⟨k, j, L1, rfl, hk, hj, rfl, rfl, hJk⟩
  have hb' := hi.blk _ _ hb
  by_cases hlt : k < es.length
  · obtain ⟨e, he⟩ : ∃ e, es[es.length - 1 - k]? = some e := ⟨_, List.getElem?_eq_getElem (by omega)⟩
    have hjn : j = ((es.length - 1 - k : Nat) : Int) := by omega
    subst hjn
    obtain ⟨b1, o1, c1, t1, z1, p1, e1, g1, h1⟩ := (hs.le hi).at (k := es.length - 1 - k) (by omega) (by omega)
    cases e1
    have q1 : ∀ d u, (cl e)[d]? = some u → c1[o1 + ((es.length - 1 - k : Nat) : Int).toNat * 12 + d]? = some u := fun d u hu => by
      have hd : d < 12 := by have := (List.getElem?_eq_some_iff.1 hu).1; rwa [hcl e (List.mem_of_getElem? he)] at this
      rw [h1 d hd, rowC_at hcl he d hd]; exact hu
    have hyk := hy k _ i' L1 R (bw_at hlt he) hi hJk
    repeat' (first
      | refine CS.seq ?_
      | refine thenQ.normal ?_
      | refine CS.cond_true rfl ?_
      | refine CS.cond_false rfl ?_
      | refine CS.skip ?_
      | (refine CS.region (id := 0) ?_;
          refine RS.lv (LV.load tab_ok rfl (Has.imm hb') rfl) rfl ?_;
          (first | refine RS.pv (PV.lenS tab_ok rfl rfl) rfl ?_ | refine RS.pv (PV.lenT tab_ok rfl rfl) rfl ?_);
          refine RS.pv (PV.sub rfl rfl (by omega)) rfl ?_;
          refine RS.pv (PV.all tab_ok rfl) rfl ?_;
          refine RS.nil ?_)
      | (refine CS.region (id := 1) ?_;
          refine RS.pv (PV.all tab_ok rfl) rfl ?_;
          (first | refine RS.pv (PV.geqT rfl rfl (by omega)) rfl ?_ | refine RS.pv (PV.geqF rfl rfl (by omega)) rfl ?_ | refine RS.ifGeq rfl rfl rfl (fun h => ?_) (fun h => ?_));
          (all_goals refine RS.nil ?_))
      | (refine CS.region (id := 2) ?_;
          refine RS.pv (PV.all tab_ok rfl) rfl ?_;
          refine RS.pv (PV.sub rfl rfl (by omega)) rfl ?_;
          refine RS.pv (PV.all tab_ok rfl) rfl ?_;
          refine RS.nil ?_)
      | (refine CS.region (id := 3) ?_;
          refine RS.pv (PV.all tab_ok rfl) rfl ?_;
          refine RS.pv (PV.all tab_ok rfl) rfl ?_;
          refine RS.lv (LV.load tab_ok rfl (Has.imm hb') rfl) rfl ?_;
          refine RS.pv (PV.all tab_ok rfl) rfl ?_;
          (first | refine RS.pv (PV.indexAddr tab_ok rfl rfl rfl (by omega)) rfl ?_ | refine RS.pv (PV.indexAddrA tab_ok rfl rfl rfl (by omega)) rfl ?_);
          refine RS.lv (LV.loadL tab_ok rfl (Has.imm g1) (l := cl e) rfl rfl (hcl e (List.mem_of_getElem? he)) q1) rfl ?_;
          (all_goals (refine RS.yield hyk rfl rfl rfl ?_; rintro bb i5 L5 hi5 ⟨rfl, L6, rfl, hJ6⟩));
          (all_goals refine RS.pv (PV.all tab_ok rfl) rfl ?_);
          (all_goals refine RS.nil ?_))
      | refine CS.ret ?_
      | refine thenQ.ret ?_
      | refine blkQ.ret ?_
      | refine retQ.ret ?_
      | refine CS.block ?_
      | refine CS.exit ?_
      | refine thenQ.exit ?_
      | refine blkQ.normal ?_
      | refine blkQ.here ?_
      | refine blkQ.past rfl ?_
      | refine retQ.normal ?_)
    exact ⟨es.length - (k + 1), by omega, k + 1, _, L6, rfl, hlt, by omega, rfl, rfl, hJ6⟩
  · have : k = es.length := by omega
    subst this
    repeat' (first
      | refine CS.seq ?_
      | refine thenQ.normal ?_
      | refine CS.cond_true rfl ?_
      | refine CS.cond_false rfl ?_
      | refine CS.skip ?_
      | (refine CS.region (id := 0) ?_;
          (first | refine RS.lv (LV.load tab_ok rfl (Has.own 0 rfl) rfl) rfl ?_ | refine RS.lv (LV.load tab_ok rfl (Has.own 1 rfl) rfl) rfl ?_ | refine RS.lv (LV.load tab_ok rfl (Has.own 2 rfl) rfl) rfl ?_);
          (first | refine RS.pv (PV.lenS tab_ok rfl rfl) rfl ?_ | refine RS.pv (PV.lenT tab_ok rfl rfl) rfl ?_);
          refine RS.pv (PV.sub rfl rfl (by omega)) rfl ?_;
          refine RS.pv (PV.all tab_ok rfl) rfl ?_;
          refine RS.nil ?_)
      | (refine CS.region (id := 1) ?_;
          refine RS.pv (PV.all tab_ok rfl) rfl ?_;
          (first | refine RS.pv (PV.geqT rfl rfl (by omega)) rfl ?_ | refine RS.pv (PV.geqF rfl rfl (by omega)) rfl ?_ | refine RS.ifGeq rfl rfl rfl (fun h => ?_) (fun h => ?_));
          (all_goals refine RS.nil ?_))
      | refine CS.ret ?_
      | refine thenQ.ret ?_
      | refine blkQ.ret ?_
      | refine retQ.ret ?_
      | refine CS.block ?_
      | refine CS.exit ?_
      | refine thenQ.exit ?_
      | refine blkQ.normal ?_
      | refine blkQ.here ?_
      | refine blkQ.past rfl ?_
      | refine retQ.normal ?_)
    rw [bw_len]
    exact ⟨L1, rfl, hJk⟩
theorem Iter_118 {E : Type} (cl : E → List Value) (es : List E) (ao : Option Addr) (cap b : Nat) (i : Imm) (hcl : ∀ e ∈ es, (cl e).length = 7) (hs : Sl i (.slice ao es.length cap) 7 es.length (rowC cl es)) (hn : es.length ≤ 10000000000000)
    (hb : i.blk b = some (.cells (List.toArray [.slice ao es.length cap]) 74 (0, 0))) : IterS Try.prog 118 [.pointer (some ⟨b, 0, none⟩)] (bw (fun e => .agg (cl e).toArray) es) i := by
  intro i0 hi0 l J hy L R hJ
  replace hs := hs.le hi0
  replace hb := hi0.blk _ _ hb
  refine FnS.intro0 Try.func118 rfl Try.ntmps118 (by simp) Try.results118 ?_
  repeat' (first
    | refine CS.seq ?_
    | refine thenQ.normal ?_
    | refine CS.cond_true rfl ?_
    | refine CS.cond_false rfl ?_
    | refine CS.skip ?_
    | (refine CS.region (id := 0) ?_;
        refine RS.lv (LV.load tab_ok rfl (Has.imm hb) rfl) rfl ?_;
        (first | refine RS.pv (PV.lenS tab_ok rfl rfl) rfl ?_ | refine RS.pv (PV.lenT tab_ok rfl rfl) rfl ?_);
        refine RS.pv (PV.sub rfl rfl (by omega)) rfl ?_;
        refine RS.pv (PV.all tab_ok rfl) rfl ?_;
        refine RS.nil ?_)
    | refine CS.ret ?_
    | refine thenQ.ret ?_
    | refine blkQ.ret ?_
    | refine retQ.ret ?_
    | refine CS.block ?_
    | refine CS.exit ?_
    | refine thenQ.exit ?_
    | refine blkQ.normal ?_
    | refine blkQ.here ?_
    | refine blkQ.past rfl ?_
    | refine retQ.normal ?_)
  refine CS.loop [0, 1, 3] (fun m vs i' L' => ∃ (k : Nat) (j : Int) (L1 : SH), m = es.length - k ∧ k ≤ es.length ∧ j = (es.length : Int) - 1 - k ∧ vs = [.func (.yield l) #[] #[], .pointer (some ⟨b, 0, none⟩), .int .i64 j] ∧ L' = L1 ++ R ∧ J k i' L1) es.length ⟨0, (es.length : Int) - 1, L, rfl, Nat.zero_le _, by omega, rfl, rfl, hJ⟩ ?_
  rintro m g vs i' L' hi ⟨k, j, L1, rfl, hk, hj, rfl, rfl, hJk⟩
  have hb' := hi.blk _ _ hb
  by_cases hlt : k < es.length
  · obtain ⟨e, he⟩ : ∃ e, es[es.length - 1 - k]? = some e := ⟨_, List.getElem?_eq_getElem (by omega)⟩
    have hjn : j = ((es.length - 1 - k : Nat) : Int) := by omega
    subst hjn
    obtain ⟨b1, o1, c1, t1, z1, p1, e1, g1, h1⟩ := (hs.le hi).at (k := es.length - 1 - k) (by omega) (by omega)
    cases e1
    have q1 : ∀ d u, (cl e)[d]? = some u → c1[o1 + ((es.length - 1 - k : Nat) : Int).toNat * 7 + d]? = some u := fun d u hu => by
      have hd : d < 7 := by have := (List.getElem?_eq_some_iff.1 hu).1; rwa [hcl e (List.mem_of_getElem? he)] at this
      rw [h1 d hd, rowC_at hcl he d hd]; exact hu
    have hyk := hy k _ i' L1 R (bw_at hlt he) hi hJk
    repeat' (first
      | refine CS.seq ?_
      | refine thenQ.normal ?_
      | refine CS.cond_true rfl ?_
      | refine CS.cond_false rfl ?_
      | refine CS.skip ?_
      | (refine CS.region (id := 0) ?_;
          refine RS.lv (LV.load tab_ok rfl (Has.imm hb') rfl) rfl ?_;
          (first | refine RS.pv (PV.lenS tab_ok rfl rfl) rfl ?_ | refine RS.pv (PV.lenT tab_ok rfl rfl) rfl ?_);
          refine RS.pv (PV.sub rfl rfl (by omega)) rfl ?_;
          refine RS.pv (PV.all tab_ok rfl) rfl ?_;
          refine RS.nil ?_)
      | (refine CS.region (id := 1) ?_;
          refine RS.pv (PV.all tab_ok rfl) rfl ?_;
          (first | refine RS.pv (PV.geqT rfl rfl (by omega)) rfl ?_ | refine RS.pv (PV.geqF rfl rfl (by omega)) rfl ?_ | refine RS.ifGeq rfl rfl rfl (fun h => ?_) (fun h => ?_));
          (all_goals refine RS.nil ?_))
      | (refine CS.region (id := 2) ?_;
          refine RS.pv (PV.all tab_ok rfl) rfl ?_;
          refine RS.pv (PV.sub rfl rfl (by omega)) rfl ?_;
          refine RS.pv (PV.all tab_ok rfl) rfl ?_;
          refine RS.nil ?_)
      | (refine CS.region (id := 3) ?_;
          refine RS.pv (PV.all tab_ok rfl) rfl ?_;
          refine RS.pv (PV.all tab_ok rfl) rfl ?_;
          refine RS.lv (LV.load tab_ok rfl (Has.imm hb') rfl) rfl ?_;
          refine RS.pv (PV.all tab_ok rfl) rfl ?_;
          (first | refine RS.pv (PV.indexAddr tab_ok rfl rfl rfl (by omega)) rfl ?_ | refine RS.pv (PV.indexAddrA tab_ok rfl rfl rfl (by omega)) rfl ?_);
          refine RS.lv (LV.loadL tab_ok rfl (Has.imm g1) (l := cl e) rfl rfl (hcl e (List.mem_of_getElem? he)) q1) rfl ?_;
          (all_goals (refine RS.yield hyk rfl rfl rfl ?_; rintro bb i5 L5 hi5 ⟨rfl, L6, rfl, hJ6⟩));
          (all_goals refine RS.pv (PV.all tab_ok rfl) rfl ?_);
          (all_goals refine RS.nil ?_))
      | refine CS.ret ?_
      | refine thenQ.ret ?_
      | refine blkQ.ret ?_
      | refine retQ.ret ?_
      | refine CS.block ?_
      | refine CS.exit ?_
      | refine thenQ.exit ?_
      | refine blkQ.normal ?_
      | refine blkQ.here ?_
      | refine blkQ.past rfl ?_
      | refine retQ.normal ?_)
    exact ⟨es.length - (k + 1), by omega, k + 1, _, L6, rfl, hlt, by omega, rfl, rfl, hJ6⟩
  · have : k = es.length := by omega
    subst this
    repeat' (first
      | refine CS.seq ?_
      | refine thenQ.normal ?_
      | refine CS.cond_true rfl ?_
      | refine CS.cond_false rfl ?_
      | refine CS.skip ?_
      | (refine CS.region (id := 0) ?_;
          (first | refine RS.lv (LV.load tab_ok rfl (Has.own 0 rfl) rfl) rfl ?_ | refine RS.lv (LV.load tab_ok rfl (Has.own 1 rfl) rfl) rfl ?_ | refine RS.lv (LV.load tab_ok rfl (Has.own 2 rfl) rfl) rfl ?_);
          (first | refine RS.pv (PV.lenS tab_ok rfl rfl) rfl ?_ | refine RS.pv (PV.lenT tab_ok rfl rfl) rfl ?_);
          refine RS.pv (PV.sub rfl rfl (by omega)) rfl ?_;
          refine RS.pv (PV.all tab_ok rfl) rfl ?_;
          refine RS.nil ?_)
      | (refine CS.region (id := 1) ?_;
          refine RS.pv (PV.all tab_ok rfl) rfl ?_;
          (first | refine RS.pv (PV.geqT rfl rfl (by omega)) rfl ?_ | refine RS.pv (PV.geqF rfl rfl (by omega)) rfl ?_ | refine RS.ifGeq rfl rfl rfl (fun h => ?_) (fun h => ?_));
          (all_goals refine RS.nil ?_))
      | refine CS.ret ?_
      | refine thenQ.ret ?_
      | refine blkQ.ret ?_
      | refine retQ.ret ?_
      | refine CS.block ?_
      | refine CS.exit ?_
      | refine thenQ.exit ?_
      | refine blkQ.normal ?_
      | refine blkQ.here ?_
      | refine blkQ.past rfl ?_
      | refine retQ.normal ?_)
    rw [bw_len]
    exact ⟨L1, rfl, hJk⟩
theorem Iter_119 {E : Type} (cl : E → List Value) (es : List E) (ao : Option Addr) (cap b : Nat) (i : Imm) (hcl : ∀ e ∈ es, (cl e).length = 3) (hs : Sl i (.slice ao es.length cap) 3 es.length (rowC cl es)) (hn : es.length ≤ 10000000000000)
    (hb : i.blk b = some (.cells (List.toArray [.slice ao es.length cap]) 75 (0, 0))) : IterS Try.prog 119 [.pointer (some ⟨b, 0, none⟩)] (bw (fun e => .agg (cl e).toArray) es) i := by
  intro i0 hi0 l J hy L R hJ
  replace hs := hs.le hi0
  replace hb := hi0.blk _ _ hb
  refine FnS.intro0 Try.func119 rfl Try.ntmps119 (by simp) Try.results119 ?_
  repeat' (first
    | refine CS.seq ?_
    | refine thenQ.normal ?_
    | refine CS.cond_true rfl ?_
    | refine CS.cond_false rfl ?_
    | refine CS.skip ?_
    | (refine CS.region (id := 0) ?_;
        refine RS.lv (LV.load tab_ok rfl (Has.imm hb) rfl) rfl ?_;
        (first | refine RS.pv (PV.lenS tab_ok rfl rfl) rfl ?_ | refine RS.pv (PV.lenT tab_ok rfl rfl) rfl ?_);
        refine RS.pv (PV.sub rfl rfl (by omega)) rfl ?_;
        refine RS.pv (PV.all tab_ok rfl) rfl ?_;
        refine RS.nil ?_)
    | refine CS.ret ?_
    | refine thenQ.ret ?_
    | refine blkQ.ret ?_
    | refine retQ.ret ?_
    | refine CS.block ?_
    | refine CS.exit ?_
    | refine thenQ.exit ?_
    | refine blkQ.normal ?_
    | refine blkQ.here ?_
    | refine blkQ.past rfl ?_
    | refine retQ.normal ?_)
  refine CS.loop [0, 1, 3] (fun m vs i' L' => ∃ (k : Nat) (j : Int) (L1 : SH), m = es.length - k ∧ k ≤ es.length ∧ j = (es.length : Int) - 1 - k ∧ vs = [.func (.yield l) #[] #[], .pointer (some ⟨b, 0, none⟩), .int .i64 j] ∧ L' = L1 ++ R ∧ J k i' L1) es.length ⟨0, (es.length : Int) - 1, L, rfl, Nat.zero_le _, by omega, rfl, rfl, hJ⟩ ?_
  rintro m g vs i' L' hi ⟨k, j, L1, rfl, hk, hj, rfl, rfl, hJk⟩
  have hb' := hi.blk _ _ hb
  by_cases hlt : k < es.length
  · obtain ⟨e, he⟩ : ∃ e, es[es.length - 1 - k]? = some e := ⟨_, List.getElem?_eq_getElem (by omega)⟩
    have hjn : j = ((es.length - 1 - k : Nat) : Int) := by omega
    subst hjn
    obtain ⟨b1, o1, c1, t1, z1, p1, e1, g1, h1⟩ := (hs.le hi).at (k := es.length - 1 - k) (by omega) (by omega)
    cases e1
    have q1 : ∀ d u, (cl e)[d]? = some u → c1[o1 + ((es.length - 1 - k : Nat) : Int).toNat * 3 + d]? = some u := fun d u hu => by
      have hd : d < 3 := by have := (List.getElem?_eq_some_iff.1 hu).1; rwa [hcl e (List.mem_of_getElem? he)] at this
      rw [h1 d hd, rowC_at hcl he d hd]; exact hu
    have hyk := hy k _ i' L1 R (bw_at hlt he) hi hJk
    repeat' (first
      | refine CS.seq ?_
      | refine thenQ.normal ?_
      | refine CS.cond_true rfl ?_
      | refine CS.cond_false rfl ?_
      | refine CS.skip ?_
      | (refine CS.region (id := 0) ?_;
          refine RS.lv (LV.load tab_ok rfl (Has.imm hb') rfl) rfl ?_;
          (first | refine RS.pv (PV.lenS tab_ok rfl rfl) rfl ?_ | refine RS.pv (PV.lenT tab_ok rfl rfl) rfl ?_);
          refine RS.pv (PV.sub rfl rfl (by omega)) rfl ?_;
          refine RS.pv (PV.all tab_ok rfl) rfl ?_;
          refine RS.nil ?_)
      | (refine CS.region (id := 1) ?_;
          refine RS.pv (PV.all tab_ok rfl) rfl ?_;
          (first | refine RS.pv (PV.geqT rfl rfl (by omega)) rfl ?_ | refine RS.pv (PV.geqF rfl rfl (by omega)) rfl ?_ | refine RS.ifGeq rfl rfl rfl (fun h => ?_) (fun h => ?_));
          (all_goals refine RS.nil ?_))
      | (refine CS.region (id := 2) ?_;
          refine RS.pv (PV.all tab_ok rfl) rfl ?_;
          refine RS.pv (PV.sub rfl rfl (by omega)) rfl ?_;
          refine RS.pv (PV.all tab_ok rfl) rfl ?_;
          refine RS.nil ?_)
      | (refine CS.region (id := 3) ?_;
          refine RS.pv (PV.all tab_ok rfl) rfl ?_;
          refine RS.pv (PV.all tab_ok rfl) rfl ?_;
          refine RS.lv (LV.load tab_ok rfl (Has.imm hb') rfl) rfl ?_;
          refine RS.pv (PV.all tab_ok rfl) rfl ?_;
          (first | refine RS.pv (PV.indexAddr tab_ok rfl rfl rfl (by omega)) rfl ?_ | refine RS.pv (PV.indexAddrA tab_ok rfl rfl rfl (by omega)) rfl ?_);
          refine RS.lv (LV.loadL tab_ok rfl (Has.imm g1) (l := cl e) rfl rfl (hcl e (List.mem_of_getElem? he)) q1) rfl ?_;
          (all_goals (refine RS.yield hyk rfl rfl rfl ?_; rintro bb i5 L5 hi5 ⟨rfl, L6, rfl, hJ6⟩));
          (all_goals refine RS.pv (PV.all tab_ok rfl) rfl ?_);
          (all_goals refine RS.nil ?_))
      | refine CS.ret ?_
      | refine thenQ.ret ?_
      | refine blkQ.ret ?_
      | refine retQ.ret ?_
      | refine CS.block ?_
      | refine CS.exit ?_
      | refine thenQ.exit ?_
      | refine blkQ.normal ?_
      | refine blkQ.here ?_
      | refine blkQ.past rfl ?_
      | refine retQ.normal ?_)
    exact ⟨es.length - (k + 1), by omega, k + 1, _, L6, rfl, hlt, by omega, rfl, rfl, hJ6⟩
  · have : k = es.length := by omega
    subst this
    repeat' (first
      | refine CS.seq ?_
      | refine thenQ.normal ?_
      | refine CS.cond_true rfl ?_
      | refine CS.cond_false rfl ?_
      | refine CS.skip ?_
      | (refine CS.region (id := 0) ?_;
          (first | refine RS.lv (LV.load tab_ok rfl (Has.own 0 rfl) rfl) rfl ?_ | refine RS.lv (LV.load tab_ok rfl (Has.own 1 rfl) rfl) rfl ?_ | refine RS.lv (LV.load tab_ok rfl (Has.own 2 rfl) rfl) rfl ?_);
          (first | refine RS.pv (PV.lenS tab_ok rfl rfl) rfl ?_ | refine RS.pv (PV.lenT tab_ok rfl rfl) rfl ?_);
          refine RS.pv (PV.sub rfl rfl (by omega)) rfl ?_;
          refine RS.pv (PV.all tab_ok rfl) rfl ?_;
          refine RS.nil ?_)
      | (refine CS.region (id := 1) ?_;
          refine RS.pv (PV.all tab_ok rfl) rfl ?_;
          (first | refine RS.pv (PV.geqT rfl rfl (by omega)) rfl ?_ | refine RS.pv (PV.geqF rfl rfl (by omega)) rfl ?_ | refine RS.ifGeq rfl rfl rfl (fun h => ?_) (fun h => ?_));
          (all_goals refine RS.nil ?_))
      | refine CS.ret ?_
      | refine thenQ.ret ?_
      | refine blkQ.ret ?_
      | refine retQ.ret ?_
      | refine CS.block ?_
      | refine CS.exit ?_
      | refine thenQ.exit ?_
      | refine blkQ.normal ?_
      | refine blkQ.here ?_
      | refine blkQ.past rfl ?_
      | refine retQ.normal ?_)
    rw [bw_len]
    exact ⟨L1, rfl, hJk⟩
theorem Iter_120 {E : Type} (cl : E → List Value) (es : List E) (ao : Option Addr) (cap b : Nat) (i : Imm) (hcl : ∀ e ∈ es, (cl e).length = 2) (hs : Sl i (.slice ao es.length cap) 2 es.length (rowC cl es)) (hn : es.length ≤ 10000000000000)
    (hb : i.blk b = some (.cells (List.toArray [.slice ao es.length cap]) 33 (0, 0))) : IterS Try.prog 120 [.pointer (some ⟨b, 0, none⟩)] (bw (fun e => .agg (cl e).toArray) es) i := by
  intro i0 hi0 l J hy L R hJ
  replace hs := hs.le hi0
  replace hb := hi0.blk _ _ hb
  refine FnS.intro0 Try.func120 rfl Try.ntmps120 (by simp) Try.results120 ?_
  repeat' (first
    | refine CS.seq ?_
    | refine thenQ.normal ?_
    | refine CS.cond_true rfl ?_
    | refine CS.cond_false rfl ?_
    | refine CS.skip ?_
    | (refine CS.region (id := 0) ?_;
        refine RS.lv (LV.load tab_ok rfl (Has.imm hb) rfl) rfl ?_;
        (first | refine RS.pv (PV.lenS tab_ok rfl rfl) rfl ?_ | refine RS.pv (PV.lenT tab_ok rfl rfl) rfl ?_);
        refine RS.pv (PV.sub rfl rfl (by omega)) rfl ?_;
        refine RS.pv (PV.all tab_ok rfl) rfl ?_;
        refine RS.nil ?_)
    | refine CS.ret ?_
    | refine thenQ.ret ?_
    | refine blkQ.ret ?_
    | refine retQ.ret ?_
    | refine CS.block ?_
    | refine CS.exit ?_
    | refine thenQ.exit ?_
    | refine blkQ.normal ?_
    | refine blkQ.here ?_
    | refine blkQ.past rfl ?_
    | refine retQ.normal ?_)
  refine CS.loop [0, 1, 3] (fun m vs i' L' => ∃ (k : Nat) (j : Int) (L1 : SH), m = es.length - k ∧ k ≤ es.length ∧ j = (es.length : Int) - 1 - k ∧ vs = [.func (.yield l) #[] #[], .pointer (some ⟨b, 0, none⟩), .int .i64 j] ∧ L' = L1 ++ R ∧ J k i' L1) es.length ⟨0, (es.length : Int) - 1, L, rfl, Nat.zero_le _, by omega, rfl, rfl, hJ⟩ ?_
  rintro m g vs i' L' hi ⟨k, j, L1, rfl, hk, hj, rfl, rfl, hJk⟩
  have hb' := hi.blk _ _ hb
  by_cases hlt : k < es.length
  · obtain ⟨e, he⟩ : ∃ e, es[es.length - 1 - k]? = some e := ⟨_, List.getElem?_eq_getElem (by omega)⟩
    have hjn : j = ((es.length - 1 - k : Nat) : Int) := by omega
    subst hjn
    obtain ⟨b1, o1, c1, t1, z1, p1, e1, g1, h1⟩ := (hs.le hi).at (k := es.length - 1 - k) (by omega) (by omega)
    cases e1
    have q1 : ∀ d u, (cl e)[d]? = some u → c1[o1 + ((es.length - 1 - k : Nat) : Int).toNat * 2 + d]? = some u := fun d u hu => by
      have hd : d < 2 := by have := (List.getElem?_eq_some_iff.1 hu).1; rwa [hcl e (List.mem_of_getElem? he)] at this
      rw [h1 d hd, rowC_at hcl he d hd]; exact hu
    have hyk := hy k _ i' L1 R (bw_at hlt he) hi hJk
    repeat' (first
      | refine CS.seq ?_
      | refine thenQ.normal ?_
      | refine CS.cond_true rfl ?_
      | refine CS.cond_false rfl ?_
      | refine CS.skip ?_
      | (refine CS.region (id := 0) ?_;
          refine RS.lv (LV.load tab_ok rfl (Has.imm hb') rfl) rfl ?_;
          (first | refine RS.pv (PV.lenS tab_ok rfl rfl) rfl ?_ | refine RS.pv (PV.lenT tab_ok rfl rfl) rfl ?_);
          refine RS.pv (PV.sub rfl rfl (by omega)) rfl ?_;
          refine RS.pv (PV.all tab_ok rfl) rfl ?_;
          refine RS.nil ?_)
      | (refine CS.region (id := 1) ?_;
          refine RS.pv (PV.all tab_ok rfl) rfl ?_;
          (first | refine RS.pv (PV.geqT rfl rfl (by omega)) rfl ?_ | refine RS.pv (PV.geqF rfl rfl (by omega)) rfl ?_ | refine RS.ifGeq rfl rfl rfl (fun h => ?_) (fun h => ?_));
          (all_goals refine RS.nil ?_))
      | (refine CS.region (id := 2) ?_;
          refine RS.pv (PV.all tab_ok rfl) rfl ?_;
          refine RS.pv (PV.sub rfl rfl (by omega)) rfl ?_;
          refine RS.pv (PV.all tab_ok rfl) rfl ?_;
          refine RS.nil ?_)
      | (refine CS.region (id := 3) ?_;
          refine RS.pv (PV.all tab_ok rfl) rfl ?_;
          refine RS.pv (PV.all tab_ok rfl) rfl ?_;
          refine RS.lv (LV.load tab_ok rfl (Has.imm hb') rfl) rfl ?_;
          refine RS.pv (PV.all tab_ok rfl) rfl ?_;
          (first | refine RS.pv (PV.indexAddr tab_ok rfl rfl rfl (by omega)) rfl ?_ | refine RS.pv (PV.indexAddrA tab_ok rfl rfl rfl (by omega)) rfl ?_);
          refine RS.lv (LV.loadL tab_ok rfl (Has.imm g1) (l := cl e) rfl rfl (hcl e (List.mem_of_getElem? he)) q1) rfl ?_;
          (all_goals (refine RS.yield hyk rfl rfl rfl ?_; rintro bb i5 L5 hi5 ⟨rfl, L6, rfl, hJ6⟩));
          (all_goals refine RS.pv (PV.all tab_ok rfl) rfl ?_);
          (all_goals refine RS.nil ?_))
      | refine CS.ret ?_
      | refine thenQ.ret ?_
      | refine blkQ.ret ?_
      | refine retQ.ret ?_
      | refine CS.block ?_
      | refine CS.exit ?_
      | refine thenQ.exit ?_
      | refine blkQ.normal ?_
      | refine blkQ.here ?_
      | refine blkQ.past rfl ?_
      | refine retQ.normal ?_)
    exact ⟨es.length - (k + 1), by omega, k + 1, _, L6, rfl, hlt, by omega, rfl, rfl, hJ6⟩
  · have : k = es.length := by omega
    subst this
    repeat' (first
      | refine CS.seq ?_
      | refine thenQ.normal ?_
      | refine CS.cond_true rfl ?_
      | refine CS.cond_false rfl ?_
      | refine CS.skip ?_
      | (refine CS.region (id := 0) ?_;
          (first | refine RS.lv (LV.load tab_ok rfl (Has.own 0 rfl) rfl) rfl ?_ | refine RS.lv (LV.load tab_ok rfl (Has.own 1 rfl) rfl) rfl ?_ | refine RS.lv (LV.load tab_ok rfl (Has.own 2 rfl) rfl) rfl ?_);
          (first | refine RS.pv (PV.lenS tab_ok rfl rfl) rfl ?_ | refine RS.pv (PV.lenT tab_ok rfl rfl) rfl ?_);
          refine RS.pv (PV.sub rfl rfl (by omega)) rfl ?_;
          refine RS.pv (PV.all tab_ok rfl) rfl ?_;
          refine RS.nil ?_)
      | (refine CS.region (id := 1) ?_;
          refine RS.pv (PV.all tab_ok rfl) rfl ?_;
          (first | refine RS.pv (PV.geqT rfl rfl (by omega)) rfl ?_ | refine RS.pv (PV.geqF rfl rfl (by omega)) rfl ?_ | refine RS.ifGeq rfl rfl rfl (fun h => ?_) (fun h => ?_));
          (all_goals refine RS.nil ?_))
      | refine CS.ret ?_
      | refine thenQ.ret ?_
      | refine blkQ.ret ?_
      | refine retQ.ret ?_
      | refine CS.block ?_
      | refine CS.exit ?_
      | refine thenQ.exit ?_
      | refine blkQ.normal ?_
      | refine blkQ.here ?_
      | refine blkQ.past rfl ?_
      | refine retQ.normal ?_)
    rw [bw_len]
    exact ⟨L1, rfl, hJk⟩
theorem Iter_121 (es : List ByteArray) (ao : Option Addr) (cap b : Nat) (i : Imm) (hs : Sl i (.slice ao es.length cap) 1 es.length (strs es)) (hn : es.length ≤ 10000000000000)
    (hb : i.blk b = some (.cells (List.toArray [.slice ao es.length cap]) 34 (0, 0))) : IterS Try.prog 121 [.pointer (some ⟨b, 0, none⟩)] (bw Value.string es) i := by
  intro i0 hi0 l J hy L R hJ
  replace hs := hs.le hi0
  replace hb := hi0.blk _ _ hb
  refine FnS.intro0 Try.func121 rfl Try.ntmps121 (by simp) Try.results121 ?_
  repeat' (first
    | refine CS.seq ?_
    | refine thenQ.normal ?_
    | refine CS.cond_true rfl ?_
    | refine CS.cond_false rfl ?_
    | refine CS.skip ?_
    | (refine CS.region (id := 0) ?_;
        refine RS.lv (LV.load tab_ok rfl (Has.imm hb) rfl) rfl ?_;
        (first | refine RS.pv (PV.lenS tab_ok rfl rfl) rfl ?_ | refine RS.pv (PV.lenT tab_ok rfl rfl) rfl ?_);
        refine RS.pv (PV.sub rfl rfl (by omega)) rfl ?_;
        refine RS.pv (PV.all tab_ok rfl) rfl ?_;
        refine RS.nil ?_)
    | refine CS.ret ?_
    | refine thenQ.ret ?_
    | refine blkQ.ret ?_
    | refine retQ.ret ?_
    | refine CS.block ?_
    | refine CS.exit ?_
    | refine thenQ.exit ?_
    | refine blkQ.normal ?_
    | refine blkQ.here ?_
    | refine blkQ.past rfl ?_
    | refine retQ.normal ?_)
  refine CS.loop [0, 1, 3] (fun m vs i' L' => ∃ (k : Nat) (j : Int) (L1 : SH), m = es.length - k ∧ k ≤ es.length ∧ j = (es.length : Int) - 1 - k ∧ vs = [.func (.yield l) #[] #[], .pointer (some ⟨b, 0, none⟩), .int .i64 j] ∧ L' = L1 ++ R ∧ J k i' L1) es.length ⟨0, (es.length : Int) - 1, L, rfl, Nat.zero_le _, by omega, rfl, rfl, hJ⟩ ?_
  rintro m g vs i' L' hi ⟨k, j, L1, rfl, hk, hj, rfl, rfl, hJk⟩
  have hb' := hi.blk _ _ hb
  by_cases hlt : k < es.length
  · obtain ⟨e, he⟩ : ∃ e, es[es.length - 1 - k]? = some e := ⟨_, List.getElem?_eq_getElem (by omega)⟩
    have hjn : j = ((es.length - 1 - k : Nat) : Int) := by omega
    subst hjn
    obtain ⟨b1, o1, c1, t1, z1, p1, e1, g1, h1⟩ := (hs.le hi).at (k := es.length - 1 - k) (by omega) (by omega)
    cases e1
    have q1 := h1 0 (by omega)
    rw [strs_at, he] at q1
    have hyk := hy k _ i' L1 R (bw_at hlt he) hi hJk
    repeat' (first
      | refine CS.seq ?_
      | refine thenQ.normal ?_
      | refine CS.cond_true rfl ?_
      | refine CS.cond_false rfl ?_
      | refine CS.skip ?_
      | (refine CS.region (id := 0) ?_;
          refine RS.lv (LV.load tab_ok rfl (Has.imm hb') rfl) rfl ?_;
          (first | refine RS.pv (PV.lenS tab_ok rfl rfl) rfl ?_ | refine RS.pv (PV.lenT tab_ok rfl rfl) rfl ?_);
          refine RS.pv (PV.sub rfl rfl (by omega)) rfl ?_;
          refine RS.pv (PV.all tab_ok rfl) rfl ?_;
          refine RS.nil ?_)
      | (refine CS.region (id := 1) ?_;
          refine RS.pv (PV.all tab_ok rfl) rfl ?_;
          (first | refine RS.pv (PV.geqT rfl rfl (by omega)) rfl ?_ | refine RS.pv (PV.geqF rfl rfl (by omega)) rfl ?_ | refine RS.ifGeq rfl rfl rfl (fun h => ?_) (fun h => ?_));
          (all_goals refine RS.nil ?_))
      | (refine CS.region (id := 2) ?_;
          refine RS.pv (PV.all tab_ok rfl) rfl ?_;
          refine RS.pv (PV.sub rfl rfl (by omega)) rfl ?_;
          refine RS.pv (PV.all tab_ok rfl) rfl ?_;
          refine RS.nil ?_)
      | (refine CS.region (id := 3) ?_;
          refine RS.pv (PV.all tab_ok rfl) rfl ?_;
          refine RS.pv (PV.all tab_ok rfl) rfl ?_;
          refine RS.lv (LV.load tab_ok rfl (Has.imm hb') rfl) rfl ?_;
          refine RS.pv (PV.all tab_ok rfl) rfl ?_;
          (first | refine RS.pv (PV.indexAddr tab_ok rfl rfl rfl (by omega)) rfl ?_ | refine RS.pv (PV.indexAddrA tab_ok rfl rfl rfl (by omega)) rfl ?_);
          refine RS.lv (LV.load1 tab_ok rfl (Has.imm g1) rfl q1) rfl ?_;
          (all_goals (refine RS.yield hyk rfl rfl rfl ?_; rintro bb i5 L5 hi5 ⟨rfl, L6, rfl, hJ6⟩));
          (all_goals refine RS.pv (PV.all tab_ok rfl) rfl ?_);
          (all_goals refine RS.nil ?_))
      | refine CS.ret ?_
      | refine thenQ.ret ?_
      | refine blkQ.ret ?_
      | refine retQ.ret ?_
      | refine CS.block ?_
      | refine CS.exit ?_
      | refine thenQ.exit ?_
      | refine blkQ.normal ?_
      | refine blkQ.here ?_
      | refine blkQ.past rfl ?_
      | refine retQ.normal ?_)
    exact ⟨es.length - (k + 1), by omega, k + 1, _, L6, rfl, hlt, by omega, rfl, rfl, hJ6⟩
  · have : k = es.length := by omega
    subst this
    repeat' (first
      | refine CS.seq ?_
      | refine thenQ.normal ?_
      | refine CS.cond_true rfl ?_
      | refine CS.cond_false rfl ?_
      | refine CS.skip ?_
      | (refine CS.region (id := 0) ?_;
          (first | refine RS.lv (LV.load tab_ok rfl (Has.own 0 rfl) rfl) rfl ?_ | refine RS.lv (LV.load tab_ok rfl (Has.own 1 rfl) rfl) rfl ?_ | refine RS.lv (LV.load tab_ok rfl (Has.own 2 rfl) rfl) rfl ?_);
          (first | refine RS.pv (PV.lenS tab_ok rfl rfl) rfl ?_ | refine RS.pv (PV.lenT tab_ok rfl rfl) rfl ?_);
          refine RS.pv (PV.sub rfl rfl (by omega)) rfl ?_;
          refine RS.pv (PV.all tab_ok rfl) rfl ?_;
          refine RS.nil ?_)
      | (refine CS.region (id := 1) ?_;
          refine RS.pv (PV.all tab_ok rfl) rfl ?_;
          (first | refine RS.pv (PV.geqT rfl rfl (by omega)) rfl ?_ | refine RS.pv (PV.geqF rfl rfl (by omega)) rfl ?_ | refine RS.ifGeq rfl rfl rfl (fun h => ?_) (fun h => ?_));
          (all_goals refine RS.nil ?_))
      | refine CS.ret ?_
      | refine thenQ.ret ?_
      | refine blkQ.ret ?_
      | refine retQ.ret ?_
      | refine CS.block ?_
      | refine CS.exit ?_
      | refine thenQ.exit ?_
      | refine blkQ.normal ?_
      | refine blkQ.here ?_
      | refine blkQ.past rfl ?_
      | refine retQ.normal ?_)
    rw [bw_len]
    exact ⟨L1, rfl, hJk⟩
end Go.Proofs.Ytmcajldlcomegaa
