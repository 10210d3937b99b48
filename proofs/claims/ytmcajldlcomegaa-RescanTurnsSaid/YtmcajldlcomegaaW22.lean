/- Contracts: the tape's choices, made records. -/
import Derived.Test.YtmcajldlcomegaaW21
namespace Go.Proofs.Ytmcajldlcomegaa
open Go Go.Eng

theorem FnS.tapeK {P : Program} {g : FuncId} {args : List Value} {i : Imm} {L : SH} {k tp : Nat} {o : Obj} {φ : Value → Imm → Obj → Prop} (hk : L[k]? = some (tp, o))
    (h : ∀ R, FnS P g args i ((tp, o) :: R) fun v i' L' => ∃ o', φ v i' o' ∧ L' = (tp, o') :: R) : FnS P g args i L fun v i' L' => ∃ o', φ v i' o' ∧ L' = L.set k (tp, o') := by
  obtain ⟨A, B, rfl, rfl, h3⟩ := split_at hk
  refine FnS.state (FnS.frame List.perm_middle (h (A ++ B))) ?_
  rintro v i' L' w _ hs ⟨o', h1, rfl⟩
  exact ⟨i', _, Imm.le.refl i', hs.perm List.perm_middle.symm, o', h1, (h3 _).symm⟩
theorem One_s (tp k : Nat) (lv v : Value) (at_ : Int) (ss : List ByteArray) (m : Nat) (i : Imm) (L : SH) (hl : IntSl i lv) (ha : 0 ≤ at_ ∧ at_ ≤ 1000000000000) (hk : L[k]? = some (tp, tapeO lv at_)) (hs : Sl i v 1 m (strs ss)) (hm : m = ss.length) (h1 : 0 < m) (h2 : lenOk m) :
    FnS Try.prog 52 [.pointer (some ⟨tp, 0, none⟩), v] i L fun r i' L' => (∃ s ∈ ss, r = .string s) ∧ i' = i ∧ L' = L.set k (tp, tapeO lv (at_ + 1)) := by
  subst hm
  unfold lenOk at h2
  obtain ⟨ao, cap, hv, _⟩ := id hs
  subst hv
  refine FnS.intro1 Try.func52 rfl Try.ntmps52 (by simp) Try.results52 ?_
  repeat' (first
    | refine CS.seq ?_
    | refine thenQ.normal ?_
    | refine CS.cond_true rfl ?_
    | refine CS.cond_false rfl ?_
    | refine CS.skip ?_
    | (refine CS.region (id := 0) ?_;
        refine RS.pv (PV.all tab_ok rfl) rfl ?_;
        refine RS.nil ?_)
    | (refine CS.region (id := 1) ?_;
        refine RS.pv (PV.all tab_ok rfl) rfl ?_;
        (first | refine RS.pv (PV.lenS tab_ok rfl rfl) rfl ?_ | refine RS.pv (PV.lenT tab_ok rfl rfl) rfl ?_);
        (first | refine RS.pv (PV.all tab_ok rfl) rfl ?_ | refine RS.pv (PV.eqlT rfl rfl (by omega)) rfl ?_ | refine RS.pv (PV.eqlF rfl rfl (by omega)) rfl ?_ | refine RS.ifEql rfl rfl rfl (fun h => ?_) (fun h => ?_) | refine RS.ifSeql rfl rfl rfl (fun h => ?_) (fun h => ?_));
        (all_goals refine RS.nil ?_))
    | (refine CS.region (id := 2) ?_;
        refine RS.pv (PV.all tab_ok rfl) rfl ?_;
        refine RS.nil ?_)
    | refine CS.ret ?_
    | refine thenQ.ret ?_
    | refine blkQ.ret ?_
    | refine retQ.ret ?_
    | refine CS.block ?_
    | refine CS.exit ?_
    | refine thenQ.exit ?_
    | refine blkQ.normal ?_
    | refine blkQ.here ?_
    | refine blkQ.past rfl ?_
    | refine retQ.normal ?_)
  refine CS.region (id := 3) ?_
  refine RS.pv (PV.all tab_ok rfl) rfl ?_
  refine RS.pv (PV.all tab_ok rfl) rfl ?_
  refine RS.pv (PV.all tab_ok rfl) rfl ?_
  (first | refine RS.pv (PV.lenS tab_ok rfl rfl) rfl ?_ | refine RS.pv (PV.lenT tab_ok rfl rfl) rfl ?_)
  refine RS.call (Next_s tp k lv at_ (ss.length : Int) _ _ (by omega) hl ha hk) rfl (by kernel_rfl) rfl ?_
  rintro v i1 L1 hi1 ⟨⟨x, rfl⟩, rfl, rfl⟩
  have hx : 0 ≤ foldI x ss.length ∧ foldI x ss.length < ss.length := by
    by_cases h : (1 : Int) < ss.length
    · exact foldI_bd x h
    · unfold foldI; rw [if_pos (by omega)]; omega
  obtain ⟨j, hj⟩ : ∃ j : Nat, foldI x ss.length = j := ⟨(foldI x ss.length).toNat, by omega⟩
  rw [hj] at hx ⊢
  obtain ⟨b, o, cs, t, fz, cap', e, hb, hc⟩ := hs.at (k := j) (by omega) (by omega)
  cases e
  obtain ⟨s, hsj⟩ : ∃ s, ss[j]? = some s := ⟨_, List.getElem?_eq_getElem (by omega)⟩
  have q := hc 0 (by omega)
  rw [strs_at, hsj] at q
  (first | refine RS.pv (PV.indexAddr tab_ok rfl rfl rfl (by omega)) rfl ?_ | refine RS.pv (PV.indexAddrA tab_ok rfl rfl rfl (by omega)) rfl ?_)
  refine RS.lv (LV.load1 tab_ok rfl (Has.imm hb) rfl q) rfl ?_
  (all_goals refine RS.pv (PV.all tab_ok rfl) rfl ?_)
  (all_goals refine RS.nil ?_)
  refine thenQ.normal ?_
  refine CS.ret ?_
  refine retQ.ret ?_
  exact ⟨⟨s, List.mem_of_getElem? hsj, rfl⟩, rfl, rfl⟩
theorem some0_s (tp : Nat) (lv v : Value) (at_ : Int) (ss : List ByteArray) (m : Nat) (i : Imm) (R : SH) (hl : IntSl i lv) (ha : 0 ≤ at_ ∧ at_ ≤ 100000000) (hs : Sl i v 1 m (strs ss)) (hm : m = ss.length) (h2 : m ≤ 1000000) :
    FnS Try.prog 53 [.pointer (some ⟨tp, 0, none⟩), v] i ((tp, tapeO lv at_) :: R) fun r _ L' => ∃ out O, SlO 9 r 1 out.length (strs out) O ∧ out.Sublist ss ∧ L' = O ++ ((tp, tapeO lv (at_ + m)) :: R) := by
  subst hm
  obtain ⟨ao, cap, hv, _⟩ := id hs
  subst hv
  refine FnS.intro1 Try.func53 rfl Try.ntmps53 (by simp) Try.results53 ?_
  repeat' (first
    | refine CS.seq ?_
    | refine thenQ.normal ?_
    | refine CS.cond_true rfl ?_
    | refine CS.cond_false rfl ?_
    | refine CS.skip ?_
    | (refine CS.region (id := 0) ?_;
        refine RS.pv (PV.all tab_ok rfl) rfl ?_;
        refine RS.nil ?_)
    | (refine CS.region (id := 1) ?_;
        refine RS.pv (PV.all tab_ok rfl) rfl ?_;
        refine RS.nil ?_)
    | (refine CS.region (id := 2) ?_;
        refine RS.pv (PV.all tab_ok rfl) rfl ?_;
        (first | refine RS.pv (PV.lenS tab_ok rfl rfl) rfl ?_ | refine RS.pv (PV.lenT tab_ok rfl rfl) rfl ?_);
        refine RS.pv (PV.all tab_ok rfl) rfl ?_;
        refine RS.nil ?_)
    | refine CS.ret ?_
    | refine thenQ.ret ?_
    | refine blkQ.ret ?_
    | refine retQ.ret ?_
    | refine CS.block ?_
    | refine CS.exit ?_
    | refine thenQ.exit ?_
    | refine blkQ.normal ?_
    | refine blkQ.here ?_
    | refine blkQ.past rfl ?_
    | refine retQ.normal ?_)
  refine CS.loop [0, 5, 8, 9, 10] (fun n vs i' L' => ∃ (j : Nat) (out : List ByteArray) (oo : Option Addr) (oc : Nat) (O : SH), n = ss.length - j ∧ j ≤ ss.length ∧ out.Sublist (ss.take j) ∧ i.le i' ∧ SlO 9 (.slice oo out.length oc) 1 out.length (strs out) O ∧ vs = [.pointer (some ⟨tp, 0, none⟩), .slice oo out.length oc, .slice ao ss.length cap, .int .i64 ss.length, .int .i64 (j : Int)] ∧ L'.Perm (O ++ ((tp, tapeO lv (at_ + j)) :: R))) ss.length ⟨0, [], none, 0, [], rfl, Nat.zero_le _, List.Sublist.refl _, Imm.le.refl i, SlO.nil 9 1, rfl, by simp⟩ ?_
  rintro n g vs i' L' _ ⟨j, out, oo, oc, O, rfl, hj, hsub, hi, hO, rfl, hL⟩
  have hol : out.length ≤ j := by have := hsub.length_le; simp at this; omega
  by_cases hlt : j < ss.length
  · refine CS.perm (hL.trans List.perm_middle) ?_
    obtain ⟨b, o, cs, t, fz, cap', e, hb, hc⟩ := (hs.le hi).at (k := j) hlt (by omega)
    cases e
    obtain ⟨s, hsj⟩ : ∃ s, ss[j]? = some s := ⟨_, List.getElem?_eq_getElem hlt⟩
    have q := hc 0 (by omega)
    rw [strs_at, hsj] at q
    have htk : ss.take (j + 1) = ss.take j ++ [s] := by rw [List.take_add_one, hsj]; rfl
    have ht : at_ + (j : Int) + 1 = at_ + ((j + 1 : Nat) : Int) := by omega
    repeat' (first
      | refine CS.seq ?_
      | refine thenQ.normal ?_
      | refine CS.cond_true rfl ?_
      | refine CS.cond_false rfl ?_
      | refine CS.skip ?_
      | (refine CS.region (id := 0) ?_;
          refine RS.pv (PV.all tab_ok rfl) rfl ?_;
          refine RS.nil ?_)
      | (refine CS.region (id := 1) ?_;
          refine RS.pv (PV.all tab_ok rfl) rfl ?_;
          refine RS.nil ?_)
      | (refine CS.region (id := 2) ?_;
          refine RS.pv (PV.all tab_ok rfl) rfl ?_;
          (first | refine RS.pv (PV.lenS tab_ok rfl rfl) rfl ?_ | refine RS.pv (PV.lenT tab_ok rfl rfl) rfl ?_);
          refine RS.pv (PV.all tab_ok rfl) rfl ?_;
          refine RS.nil ?_)
      | (refine CS.region (id := 3) ?_;
          (first | refine RS.pv (PV.lssT rfl rfl (by omega)) rfl ?_ | refine RS.pv (PV.lssF rfl rfl (by omega)) rfl ?_ | refine RS.ifLss rfl rfl rfl (fun h => ?_) (fun h => ?_));
          (all_goals refine RS.nil ?_))
      | (refine CS.region (id := 4) ?_;
          (first | refine RS.pv (PV.indexAddr tab_ok rfl rfl rfl (by omega)) rfl ?_ | refine RS.pv (PV.indexAddrA tab_ok rfl rfl rfl (by omega)) rfl ?_);
          refine RS.lv (LV.load1 tab_ok rfl (Has.imm hb) rfl q) rfl ?_;
          (all_goals refine RS.pv (PV.all tab_ok rfl) rfl ?_);
          (all_goals refine RS.nil ?_))
      | (refine CS.region (id := 5) ?_;
          refine RS.pv (PV.all tab_ok rfl) rfl ?_;
          (refine RS.call (Next_s tp 0 lv (at_ + j) 3 _ _ (by omega) (hl.le hi) (by omega) rfl) rfl (by kernel_rfl) rfl ?_; rintro v i1 L1 hi1 ⟨⟨x, rfl⟩, rfl, rfl⟩);
          (all_goals (first | refine RS.pv (PV.all tab_ok rfl) rfl ?_ | refine RS.pv (PV.eqlT rfl rfl (by omega)) rfl ?_ | refine RS.pv (PV.eqlF rfl rfl (by omega)) rfl ?_ | refine RS.ifEql rfl rfl rfl (fun h => ?_) (fun h => ?_) | refine RS.ifSeql rfl rfl rfl (fun h => ?_) (fun h => ?_)));
          (all_goals refine RS.nil ?_))
      | (refine CS.region (id := 6) ?_;
          refine RS.pv (PV.all tab_ok rfl) rfl ?_;
          refine RS.pv (PV.all tab_ok rfl) rfl ?_;
          refine RS.buildSliceF tab_ok 1 rfl rfl rfl (fun bb i2 hi2 hbs => ?_);
          (all_goals (refine RS.perm (L' := O ++ ((tp, tapeO lv (at_ + j + 1)) :: R)) List.perm_middle.symm ?_; refine RS.append tab_ok (sz := 1) (bytes := 16) (k := out.length) (m := 1) (xs := strs out) (news := strs [s]) rfl rfl rfl ⟨_, rfl, rfl⟩ ⟨_, rfl, rfl, rfl⟩ (by omega) hO rfl (hbs.rd _) (strs_one _) (by omega) (by omega) ?_; intro v' O' hO' hnil; obtain ⟨ao', cap2, rfl⟩ := SlO.shape hO'));
          (all_goals refine RS.pv (PV.all tab_ok rfl) rfl ?_);
          (all_goals refine RS.nil ?_))
      | (refine CS.region (id := 7) ?_;
          refine RS.pv (PV.add rfl rfl (by omega)) rfl ?_;
          refine RS.pv (PV.all tab_ok rfl) rfl ?_;
          refine RS.nil ?_)
      | refine CS.ret ?_
      | refine thenQ.ret ?_
      | refine blkQ.ret ?_
      | refine retQ.ret ?_
      | refine CS.block ?_
      | refine CS.exit ?_
      | refine thenQ.exit ?_
      | refine blkQ.normal ?_
      | refine blkQ.here ?_
      | refine blkQ.past rfl ?_
      | refine retQ.normal ?_)
    · refine ⟨ss.length - (j + 1), by omega, j + 1, out ++ [s], ao', cap2, O', rfl, hlt, by rw [htk]; exact hsub.append (List.Sublist.refl _), hi.trans hi2, ?_, ?_, by rw [ht]⟩
      · have e1 : strs out ++ strs [s] = strs (out ++ [s]) := by simp [strs]
        rw [e1] at hO'
        rw [List.length_append]; exact hO'
      · rw [List.length_append]; rfl
    · refine ⟨ss.length - (j + 1), by omega, j + 1, out, oo, oc, O, rfl, hlt, by rw [htk]; exact hsub.trans (List.sublist_append_left _ _), hi, hO, rfl, ?_⟩
      rw [← ht]
      exact List.perm_middle.symm
  · have hje : j = ss.length := by omega
    subst hje
    refine CS.perm hL ?_
    repeat' (first
      | refine CS.seq ?_
      | refine thenQ.normal ?_
      | refine CS.cond_true rfl ?_
      | refine CS.cond_false rfl ?_
      | refine CS.skip ?_
      | (refine CS.region (id := 0) ?_;
          refine RS.pv (PV.all tab_ok rfl) rfl ?_;
          refine RS.nil ?_)
      | (refine CS.region (id := 1) ?_;
          refine RS.pv (PV.all tab_ok rfl) rfl ?_;
          refine RS.nil ?_)
      | (refine CS.region (id := 2) ?_;
          refine RS.pv (PV.all tab_ok rfl) rfl ?_;
          (first | refine RS.pv (PV.lenS tab_ok rfl rfl) rfl ?_ | refine RS.pv (PV.lenT tab_ok rfl rfl) rfl ?_);
          refine RS.pv (PV.all tab_ok rfl) rfl ?_;
          refine RS.nil ?_)
      | (refine CS.region (id := 3) ?_;
          (first | refine RS.pv (PV.lssT rfl rfl (by omega)) rfl ?_ | refine RS.pv (PV.lssF rfl rfl (by omega)) rfl ?_ | refine RS.ifLss rfl rfl rfl (fun h => ?_) (fun h => ?_));
          (all_goals refine RS.nil ?_))
      | (refine CS.region (id := 8) ?_;
          refine RS.pv (PV.all tab_ok rfl) rfl ?_;
          refine RS.pv (PV.all tab_ok rfl) rfl ?_;
          refine RS.nil ?_)
      | refine CS.ret ?_
      | refine thenQ.ret ?_
      | refine blkQ.ret ?_
      | refine retQ.ret ?_
      | refine CS.block ?_
      | refine CS.exit ?_
      | refine thenQ.exit ?_
      | refine blkQ.normal ?_
      | refine blkQ.here ?_
      | refine blkQ.past rfl ?_
      | refine retQ.normal ?_)
    exact ⟨out, O, hO, by rw [List.take_length] at hsub; exact hsub, rfl⟩
theorem some_s (tp k : Nat) (lv v : Value) (at_ : Int) (ss : List ByteArray) (m : Nat) (i : Imm) (L : SH) (hl : IntSl i lv) (ha : 0 ≤ at_ ∧ at_ ≤ 100000000) (hk : L[k]? = some (tp, tapeO lv at_)) (hs : Sl i v 1 m (strs ss)) (hm : m = ss.length) (h2 : m ≤ 1000000) :
    FnS Try.prog 53 [.pointer (some ⟨tp, 0, none⟩), v] i L fun r i' L' => (∃ out, Sl i' r 1 out.length (strs out) ∧ out.Sublist ss) ∧ L' = L.set k (tp, tapeO lv (at_ + m)) := by
  refine (FnS.tapeK (φ := fun r i' o' => (∃ out, Sl i' r 1 out.length (strs out) ∧ out.Sublist ss) ∧ o' = tapeO lv (at_ + m)) hk fun R => ?_).mono fun v i' L' _ ⟨o', ⟨h1, h2⟩, h3⟩ => ⟨h1, by rw [h3, h2]⟩
  refine FnS.state (some0_s tp lv v at_ ss m i R hl ha hs hm h2) ?_
  rintro v i' L' w _ hst ⟨out, O, hO, hsub, rfl⟩
  obtain ⟨i2, h3, h4, h5⟩ := SlO.freeze hO hst
  exact ⟨i2, _, h3, h4, _, ⟨⟨out, h5, hsub⟩, rfl⟩, rfl⟩
/-! ### lists of texts that are written out -/
def unstrs : List Value → Option (List ByteArray)
  | [] => some []
  | .string s :: l => (match unstrs l with | some r => some (s :: r) | none => none)
  | _ => none
theorem unstrs_eq : ∀ (l : List Value) (ss : List ByteArray), unstrs l = some ss → l = strs ss
  | [], ss, h => by cases h; rfl
  | v :: l, ss, h => by
    cases v with
    | string s =>
      simp only [unstrs] at h
      split at h
      · rename_i r hr
        cases h
        rw [unstrs_eq l r hr]; rfl
      · cases h
    | _ => cases h
section
variable {P : Program} {all : List Oper} {n : Nat} {r : List Oper} {f : Fr} {i : Imm} {L : SH} {dst : Option Nat} {ty : TypeId} {pos : String} {aft : Array Edge} {gd : Option (Nat × Bool)} {T : Tab}
theorem OpS.buildStrsF (hT : T.ok P) {t len e : Nat} {parts : Array (Nat × Operand)} {cs : List Value} {ss : List ByteArray} (h : bsl T n f t len parts.toList = some (e, cs)) (hu : unstrs cs = some ss) (hl : len = ss.length) :
    OpS P n ⟨dst, .buildSlice t len parts, ty, pos, aft, gd⟩ f i L fun v i' L' => L' = L ∧ ∃ b, v = .slice (some ⟨b, 0, none⟩) len len ∧ Sl i' v 1 len (strs ss) := by
  have e := unstrs_eq _ _ hu
  rw [← e]
  exact OpS.buildSliceF hT h (by rw [e, hl]; simp [strs])
theorem RS.buildStrsF {K : Fr → Imm → SH → Prop} (hT : T.ok P) {t len e : Nat} {parts : Array (Nat × Operand)} {cs : List Value} {ss : List ByteArray} (hg : gok n f all ⟨dst, .buildSlice t len parts, ty, pos, aft, gd⟩ = true) (h : bsl T n f t len parts.toList = some (e, cs)) (hu : unstrs cs = some ss) (hl : len = ss.length)
    (k : ∀ b i', i.le i' → Sl i' (.slice (some ⟨b, 0, none⟩) len len) 1 len (strs ss) → RS P all n r (updO f dst (.slice (some ⟨b, 0, none⟩) len len)) i' L K) : RS P all n (⟨dst, .buildSlice t len parts, ty, pos, aft, gd⟩ :: r) f i L K := by
  refine RS.step hg (OpS.mono (OpS.buildStrsF hT h hu hl) ?_)
  rintro v i' L' hi ⟨rfl, b, rfl, hs⟩
  exact k b i' hi hs
end
theorem strs_nodup {l m : List ByteArray} (h : l.Sublist m) (hm : m.Nodup) : l.Nodup := h.nodup hm
/-- what a made record is -/
structure Made (r : Rec) (path : ByteArray) (index : Int) : Prop where
  ok : r.ok
  path : r.path = path
  index : r.index = index
  links : r.links.Nodup
  few : r.links.length ≤ 4
  lows : r.props.length ≤ 7 ∧ r.tags.length ≤ 4 ∧ r.run.length ≤ 3 ∧ r.load.length ≤ 3
theorem Record0_s (tp : Nat) (lv : Value) (at_ : Int) (path : ByteArray) (index : Int) (i : Imm) (R : SH) (hl : IntSl i lv) (ha : 0 ≤ at_ ∧ at_ ≤ 10000000) :
    FnS Try.prog 28 [.pointer (some ⟨tp, 0, none⟩), .string path, .int .i64 index] i ((tp, tapeO lv at_) :: R) fun v i' L' => ∃ rc r at', v = .agg (List.toArray rc) ∧ RecV i' rc r ∧ Made r path index ∧ at_ ≤ at' ∧ at' ≤ at_ + 40 ∧ L' = (tp, tapeO lv at') :: R := by
  refine FnS.state (K := fun v i' L' => ∃ rc r at' G, v = .agg (List.toArray rc) ∧ RecV i' rc r ∧ Made r path index ∧ at_ ≤ at' ∧ at' ≤ at_ + 40 ∧ L' = G ++ ((tp, tapeO lv at') :: R)) ?_ ?_
  rotate_left
  · rintro v i' L' w _ hs ⟨rc, r, at', G, h1, h2, h3, h4, h5, rfl⟩
    exact ⟨i', _, Imm.le.refl i', hs.dropL, rc, r, at', h1, h2, h3, h4, h5, rfl⟩
  refine FnS.introC tab_ok Try.func28 rfl Try.ntmps28 (by simp) Try.results28 ?_
  repeat' (first
    | refine CS.seq ?_
    | refine thenQ.normal ?_
    | refine CS.cond_true rfl ?_
    | refine CS.cond_false rfl ?_
    | refine CS.skip ?_
    | (refine CS.region (id := 0) ?_;
        refine RS.alloc tab_ok rfl rfl (fun b6 => ?_);
        (all_goals refine RS.nil ?_))
    | (refine CS.region (id := 1) ?_;
        refine RS.pv (PV.all tab_ok rfl) rfl ?_;
        refine RS.pv (PV.all tab_ok rfl) rfl ?_;
        refine RS.pv (PV.all tab_ok rfl) rfl ?_;
        (refine RS.buildStrsF tab_ok rfl rfl rfl rfl (fun bb i2 hi2 hbs => ?_); replace hl := hl.le hi2);
        (all_goals (refine RS.call (One_s tp 1 lv _ at_ _ _ _ _ hl (by omega) rfl hbs rfl (by decide) (by unfold lenOk; omega)) rfl (by kernel_rfl) rfl ?_; rintro v i3 L3 hi3 ⟨⟨owner, _, rfl⟩, rfl, rfl⟩));
        (all_goals refine RS.pv (PV.all tab_ok rfl) rfl ?_);
        (all_goals (refine RS.buildStrsF tab_ok rfl rfl rfl rfl (fun bb i2 hi2 hbs => ?_); replace hl := hl.le hi2));
        (all_goals (refine RS.call (One_s tp 1 lv _ (at_ + 1) _ _ _ _ hl (by omega) rfl hbs rfl (by decide) (by unfold lenOk; omega)) rfl (by kernel_rfl) rfl ?_; rintro v i3 L3 hi3 ⟨⟨group, _, rfl⟩, rfl, rfl⟩));
        (all_goals refine RS.pv (PV.all tab_ok rfl) rfl ?_);
        (all_goals (refine RS.call (Next_s tp 1 lv (at_ + 1 + 1) 8 _ _ (by omega) hl (by omega) rfl) rfl (by kernel_rfl) rfl ?_; rintro v i3 L3 hi3 ⟨⟨x, rfl⟩, rfl, rfl⟩; have hx := foldI_bd x (n := 8) (by omega)));
        (all_goals refine RS.pv (PV.mul rfl rfl (by omega)) rfl ?_);
        (all_goals refine RS.pv (PV.all tab_ok rfl) rfl ?_);
        (all_goals (refine RS.call (Next_s tp 1 lv (at_ + 1 + 1 + 1) 64 _ _ (by omega) hl (by omega) rfl) rfl (by kernel_rfl) rfl ?_; rintro v i3 L3 hi3 ⟨⟨y, rfl⟩, rfl, rfl⟩; have hy := foldI_bd y (n := 64) (by omega)));
        (all_goals refine RS.pv (PV.add rfl rfl (by omega)) rfl ?_);
        (all_goals refine RS.pv (PV.all tab_ok rfl) rfl ?_);
        (all_goals refine RS.alloc tab_ok rfl rfl (fun b7 => ?_));
        (all_goals (first | refine RS.store (k := 0) tab_ok rfl rfl rfl rfl rfl rfl rfl rfl ?_ | refine RS.store (k := 1) tab_ok rfl rfl rfl rfl rfl rfl rfl rfl ?_ | refine RS.store (k := 2) tab_ok rfl rfl rfl rfl rfl rfl rfl rfl ?_));
        (all_goals refine RS.nil ?_))
    | (refine CS.region (id := 2) ?_;
        refine RS.pv (PV.all tab_ok rfl) rfl ?_;
        (refine RS.buildStrsF tab_ok rfl rfl rfl rfl (fun bb i2 hi2 hbs => ?_); replace hl := hl.le hi2);
        (all_goals (refine RS.call (some_s tp 2 lv _ (at_ + 1 + 1 + 1 + 1) _ _ _ _ hl (by omega) rfl hbs rfl (by omega)) rfl (by kernel_rfl) rfl ?_; rintro v i3 L3 hi3 ⟨⟨ks, hks, hksub⟩, rfl⟩; replace hl := hl.le hi3; obtain ⟨ka, kc, rfl, _⟩ := id hks; have hkl : ks.length ≤ 6 := hksub.length_le));
        (all_goals (first | refine RS.pv (PV.lenS tab_ok rfl rfl) rfl ?_ | refine RS.pv (PV.lenT tab_ok rfl rfl) rfl ?_));
        (all_goals refine RS.pv (PV.all tab_ok rfl) rfl ?_);
        (all_goals refine RS.nil ?_))
    | refine CS.ret ?_
    | refine thenQ.ret ?_
    | refine blkQ.ret ?_
    | refine retQ.ret ?_
    | refine CS.block ?_
    | refine CS.exit ?_
    | refine thenQ.exit ?_
    | refine blkQ.normal ?_
    | refine blkQ.here ?_
    | refine blkQ.past rfl ?_
    | refine retQ.normal ?_)
  obtain ⟨md, hmd⟩ : ∃ md, 64 * foldI x 8 + foldI y 64 = md := ⟨_, rfl⟩
  rw [hmd]
  refine CS.loop [0, 6, 7, 27, 28, 29] (fun n vs i' L' => ∃ (j : Nat) (props : List (ByteArray × ByteArray)) (oo : Option Addr) (oc : Nat) (O : SH) (at' : Int), n = ks.length - j ∧ j ≤ ks.length ∧ props.length = j ∧ Sl i' (.slice ka ks.length kc) 1 ks.length (strs ks) ∧ IntSl i' lv ∧ at_ ≤ at' ∧ at' ≤ at_ + 10 + j ∧ SlO 103 (.slice oo props.length oc) 2 props.length (attrs props) O ∧ vs = [.pointer (some ⟨tp, 0, none⟩), .pointer (some ⟨b6, 0, none⟩), .pointer (some ⟨b7, 0, none⟩), .slice ka ks.length kc, .int .i64 ks.length, .int .i64 (j : Int)] ∧ L' = (b7, .cells (List.toArray [.string path, .int .i64 index, .slice oo props.length oc, .slice none 0 0, .slice none 0 0, .slice none 0 0, .slice none 0 0, .string ByteArray.empty, .int .i64 0, .string owner, .string group, .int .i64 md]) 36 (0, 0)) :: (b6, .cells (List.toArray [.string ByteArray.empty, .int .i64 0, .slice none 0 0, .slice none 0 0, .slice none 0 0, .slice none 0 0, .slice none 0 0, .string ByteArray.empty, .int .i64 0, .string ByteArray.empty, .string ByteArray.empty, .int .i64 0]) 36 (0, 0)) :: (tp, tapeO lv (at')) :: (O ++ R)) ks.length ⟨0, [], none, 0, [], at_ + 1 + 1 + 1 + 1 + ((6 : Nat) : Int), rfl, Nat.zero_le _, rfl, hks, hl, by omega, by omega, SlO.nil 103 2, rfl, rfl⟩ ?_
  clear hl hks hbs
  rintro n g vs i' L' _ ⟨j, props, oo, oc, O, at', rfl, hj, hpl, hks, hl, ha1, ha2, hO, rfl, rfl⟩
  by_cases hlt : j < ks.length
  · obtain ⟨b, o, cs, t, fz, cap', e, hb, hc⟩ := hks.at (k := j) hlt (by omega)
    cases e
    obtain ⟨key, hsj⟩ : ∃ s, ks[j]? = some s := ⟨_, List.getElem?_eq_getElem hlt⟩
    have q := hc 0 (by omega)
    rw [strs_at, hsj] at q
    repeat' (first
      | refine CS.seq ?_
      | refine thenQ.normal ?_
      | refine CS.cond_true rfl ?_
      | refine CS.cond_false rfl ?_
      | refine CS.skip ?_
      | (refine CS.region (id := 0) ?_;
          refine RS.alloc tab_ok rfl rfl (fun b => ?_);
          refine RS.nil ?_)
      | (refine CS.region (id := 1) ?_;
          refine RS.pv (PV.all tab_ok rfl) rfl ?_;
          refine RS.pv (PV.all tab_ok rfl) rfl ?_;
          refine RS.pv (PV.all tab_ok rfl) rfl ?_)
      | (refine CS.region (id := 2) ?_;
          refine RS.pv (PV.all tab_ok rfl) rfl ?_)
      | (refine CS.region (id := 3) ?_;
          (first | refine RS.pv (PV.lssT rfl rfl (by omega)) rfl ?_ | refine RS.pv (PV.lssF rfl rfl (by omega)) rfl ?_ | refine RS.ifLss rfl rfl rfl (fun h => ?_) (fun h => ?_));
          (all_goals refine RS.nil ?_))
      | (refine CS.region (id := 4) ?_;
          (first | refine RS.pv (PV.indexAddr tab_ok rfl rfl rfl (by omega)) rfl ?_ | refine RS.pv (PV.indexAddrA tab_ok rfl rfl rfl (by omega)) rfl ?_);
          refine RS.lv (LV.load1 tab_ok rfl (Has.imm hb) rfl q) rfl ?_;
          (all_goals refine RS.pv (PV.all tab_ok rfl) rfl ?_);
          (all_goals refine RS.nil ?_))
      | (refine CS.region (id := 6) ?_;
          refine RS.pv (PV.add rfl rfl (by omega)) rfl ?_;
          refine RS.pv (PV.all tab_ok rfl) rfl ?_;
          refine RS.nil ?_)
      | refine CS.ret ?_
      | refine thenQ.ret ?_
      | refine blkQ.ret ?_
      | refine retQ.ret ?_
      | refine CS.block ?_
      | refine CS.exit ?_
      | refine thenQ.exit ?_
      | refine blkQ.normal ?_
      | refine blkQ.here ?_
      | refine blkQ.past rfl ?_
      | refine retQ.normal ?_)
    refine CS.draw [0, 1, 2, 3, 4, 5, 6, 7] [8, 9, 10] [5] [(b7, .cells (List.toArray [.string path, .int .i64 index, .slice oo props.length oc, .slice none 0 0, .slice none 0 0, .slice none 0 0, .slice none 0 0, .string ByteArray.empty, .int .i64 0, .string owner, .string group, .int .i64 md]) 36 (0, 0)) :: (b6, .cells (List.toArray [.string ByteArray.empty, .int .i64 0, .slice none 0 0, .slice none 0 0, .slice none 0 0, .slice none 0 0, .slice none 0 0, .string ByteArray.empty, .int .i64 0, .string ByteArray.empty, .string ByteArray.empty, .int .i64 0]) 36 (0, 0)) :: (tp, tapeO lv (at')) :: (O ++ R), (b7, .cells (List.toArray [.string path, .int .i64 index, .slice oo props.length oc, .slice none 0 0, .slice none 0 0, .slice none 0 0, .slice none 0 0, .string ByteArray.empty, .int .i64 0, .string owner, .string group, .int .i64 md]) 36 (0, 0)) :: (b6, .cells (List.toArray [.string ByteArray.empty, .int .i64 0, .slice none 0 0, .slice none 0 0, .slice none 0 0, .slice none 0 0, .slice none 0 0, .string ByteArray.empty, .int .i64 0, .string ByteArray.empty, .string ByteArray.empty, .int .i64 0]) 36 (0, 0)) :: (tp, tapeO lv (at' + 1)) :: (O ++ R)] mix (by kernel_rfl) rfl rfl [_, _, _] rfl ?_
    refine GS.pv (PV.all tab_ok rfl) rfl rfl rfl rfl rfl rfl ?_
    refine GS.fix (v := .slice oo props.length oc) rfl rfl rfl rfl rfl rfl (fun i' _ L' hL' => by rcases List.mem_cons.1 hL' with rfl | h; exact LV.load tab_ok rfl (Has.own 0 rfl) rfl; rw [List.mem_singleton.1 h]; exact LV.load tab_ok rfl (Has.own 0 rfl) rfl) ?_
    refine GS.pv (PV.all tab_ok rfl) rfl rfl rfl rfl rfl rfl ?_
    refine GS.pv (PV.all tab_ok rfl) rfl rfl rfl rfl rfl rfl ?_
    refine GS.factA (fun i v => ∃ b, v = .slice (some ⟨b, 0, none⟩) 7 7 ∧ Sl i v 1 7 (strs [⟨#[49]⟩, ⟨#[]⟩, ⟨#[115, 101, 97, 116, 49]⟩, ⟨#[120, 61, 121]⟩, ⟨#[97, 32, 98]⟩, ⟨#[46]⟩, ⟨#[115, 101, 97, 116, 48]⟩])) (fun _ _ hi _ ⟨b, h1, h2⟩ => ⟨b, h1, h2.le hi⟩) rfl rfl rfl rfl (fun i' hi L hL => ⟨rfl, OpS.buildStrsF tab_ok rfl rfl rfl⟩) ⟨_, .head _⟩ ?_
    refine GS.turn 0 (fun _ v => ∃ s, v = .string s) (fun _ _ _ _ h => h) rfl rfl rfl rfl (by decide) rfl rfl (fun i' hi => by rintro v ⟨b, rfl, hb⟩; exact ⟨rfl, OpS.call (by kernel_rfl) rfl (One_s tp 2 lv _ (at') _ _ _ _ (hl.le hi) (by omega) rfl hb rfl (by decide) (by unfold lenOk; omega)) (fun _ _ _ _ ⟨⟨s, _, h⟩, _, hL⟩ => ⟨hL, s, h⟩)⟩) ?_
    refine GS.factA (fun _ v => ∃ s, v = .agg (List.toArray [.string key, .string s])) (fun _ _ _ _ h => h) rfl rfl rfl rfl (fun i' hi L hL => by rintro v ⟨s, rfl⟩; exact ⟨rfl, OpS.mono (OpS.pv (PV.all tab_ok rfl)) (fun _ _ _ _ ⟨h1, h2⟩ => ⟨h1, s, h2⟩)⟩) ⟨_, .head _⟩ ?_
    refine GS.factA (fun i v => ∃ b s, v = .slice (some ⟨b, 0, none⟩) 1 1 ∧ Sl i v 2 1 [.string key, .string s]) (fun _ _ hi _ ⟨b, s, h1, h2⟩ => ⟨b, s, h1, h2.le hi⟩) rfl rfl rfl rfl (fun i' hi L hL => by rintro v ⟨s, rfl⟩; exact ⟨rfl, OpS.mono (OpS.buildSliceF (sz := 2) tab_ok rfl rfl) (fun _ _ _ _ ⟨h1, b, h2, h3⟩ => ⟨h1, b, s, h2, h3⟩)⟩) ⟨_, .head _⟩ ?_
    refine GS.done rfl rfl (fun i5 hi5 => ?_)
    rintro w7 ⟨wb, ws, rfl, hw7⟩ w6 _ w5 _ w4 _
    refine RS.perm (L' := O ++ ((b7, .cells (List.toArray [.string path, .int .i64 index, .slice oo props.length oc, .slice none 0 0, .slice none 0 0, .slice none 0 0, .slice none 0 0, .string ByteArray.empty, .int .i64 0, .string owner, .string group, .int .i64 md]) 36 (0, 0)) :: (b6, .cells (List.toArray [.string ByteArray.empty, .int .i64 0, .slice none 0 0, .slice none 0 0, .slice none 0 0, .slice none 0 0, .slice none 0 0, .string ByteArray.empty, .int .i64 0, .string ByteArray.empty, .string ByteArray.empty, .int .i64 0]) 36 (0, 0)) :: (tp, tapeO lv (at' + 1)) :: (R))) ?_ ?_
    · refine perm_of_sum _ _ fun f => ?_
      simp only [List.map_append, List.map_cons, List.sum_append, List.sum_cons]
      omega
    refine RS.append tab_ok (sz := 2) (bytes := 32) (k := props.length) (m := 1) (xs := attrs props) (news := [.string key, .string ws]) rfl rfl rfl ⟨_, rfl, rfl⟩ ⟨_, rfl, rfl, rfl⟩ (by omega) hO rfl (hw7.rd _) (by intro c hc; simp at hc; rcases hc with rfl | rfl <;> rfl) (by omega) (by omega) ?_
    intro v' O' hO' hnil
    obtain ⟨ao', cap', rfl⟩ := SlO.shape hO'
    refine RS.perm (L' := (b7, .cells (List.toArray [.string path, .int .i64 index, .slice oo props.length oc, .slice none 0 0, .slice none 0 0, .slice none 0 0, .slice none 0 0, .string ByteArray.empty, .int .i64 0, .string owner, .string group, .int .i64 md]) 36 (0, 0)) :: (b6, .cells (List.toArray [.string ByteArray.empty, .int .i64 0, .slice none 0 0, .slice none 0 0, .slice none 0 0, .slice none 0 0, .slice none 0 0, .string ByteArray.empty, .int .i64 0, .string ByteArray.empty, .string ByteArray.empty, .int .i64 0]) 36 (0, 0)) :: (tp, tapeO lv (at' + 1)) :: (O' ++ R)) ?_ ?_
    · refine perm_of_sum _ _ fun f => ?_
      simp only [List.map_append, List.map_cons, List.sum_append, List.sum_cons]
      omega
    refine RS.pv (PV.all tab_ok rfl) rfl ?_
    refine RS.store (k := 0) tab_ok rfl rfl rfl rfl rfl rfl rfl rfl ?_
    refine RS.nil ?_
    rw [show attrs props ++ [.string key, .string ws] = attrs (props ++ [(key, ws)]) by simp [attrs]] at hO'
    repeat' (first
      | refine CS.seq ?_
      | refine thenQ.normal ?_
      | refine CS.cond_true rfl ?_
      | refine CS.cond_false rfl ?_
      | refine CS.skip ?_
      | (refine CS.region (id := 0) ?_;
          refine RS.alloc tab_ok rfl rfl (fun b => ?_);
          refine RS.nil ?_)
      | (refine CS.region (id := 1) ?_;
          refine RS.pv (PV.all tab_ok rfl) rfl ?_;
          refine RS.pv (PV.all tab_ok rfl) rfl ?_;
          refine RS.pv (PV.all tab_ok rfl) rfl ?_)
      | (refine CS.region (id := 2) ?_;
          refine RS.pv (PV.all tab_ok rfl) rfl ?_)
      | (refine CS.region (id := 6) ?_;
          refine RS.pv (PV.add rfl rfl (by omega)) rfl ?_;
          refine RS.pv (PV.all tab_ok rfl) rfl ?_;
          refine RS.nil ?_)
      | refine CS.ret ?_
      | refine thenQ.ret ?_
      | refine blkQ.ret ?_
      | refine retQ.ret ?_
      | refine CS.block ?_
      | refine CS.exit ?_
      | refine thenQ.exit ?_
      | refine blkQ.normal ?_
      | refine blkQ.here ?_
      | refine blkQ.past rfl ?_
      | refine retQ.normal ?_)
    exact ⟨ks.length - (j + 1), by omega, j + 1, props ++ [(key, ws)], ao', cap', O', at' + 1, rfl, hlt, by rw [List.length_append, hpl]; rfl, hks.le hi5, hl.le hi5, by omega, by omega, by rw [List.length_append]; exact hO', rfl, by rw [List.length_append]; rfl⟩
  · repeat' (first
      | refine CS.seq ?_
      | refine thenQ.normal ?_
      | refine CS.cond_true rfl ?_
      | refine CS.cond_false rfl ?_
      | refine CS.skip ?_
      | (refine CS.region (id := 0) ?_;
          refine RS.alloc tab_ok rfl rfl (fun b => ?_);
          refine RS.nil ?_)
      | (refine CS.region (id := 1) ?_;
          refine RS.pv (PV.all tab_ok rfl) rfl ?_;
          refine RS.pv (PV.all tab_ok rfl) rfl ?_;
          refine RS.pv (PV.all tab_ok rfl) rfl ?_)
      | (refine CS.region (id := 2) ?_;
          refine RS.pv (PV.all tab_ok rfl) rfl ?_)
      | (refine CS.region (id := 3) ?_;
          (first | refine RS.pv (PV.lssT rfl rfl (by omega)) rfl ?_ | refine RS.pv (PV.lssF rfl rfl (by omega)) rfl ?_ | refine RS.ifLss rfl rfl rfl (fun h => ?_) (fun h => ?_));
          (all_goals refine RS.nil ?_))
      | refine CS.ret ?_
      | refine thenQ.ret ?_
      | refine blkQ.ret ?_
      | refine retQ.ret ?_
      | refine CS.block ?_
      | refine CS.exit ?_
      | refine thenQ.exit ?_
      | refine blkQ.normal ?_
      | refine blkQ.here ?_
      | refine blkQ.past rfl ?_
      | refine retQ.normal ?_)
    refine CS.draw [0, 1, 2, 3, 4, 5, 6] [7, 8, 9] [4] [(b7, .cells (List.toArray [.string path, .int .i64 index, .slice oo props.length oc, .slice none 0 0, .slice none 0 0, .slice none 0 0, .slice none 0 0, .string ByteArray.empty, .int .i64 0, .string owner, .string group, .int .i64 md]) 36 (0, 0)) :: (b6, .cells (List.toArray [.string ByteArray.empty, .int .i64 0, .slice none 0 0, .slice none 0 0, .slice none 0 0, .slice none 0 0, .slice none 0 0, .string ByteArray.empty, .int .i64 0, .string ByteArray.empty, .string ByteArray.empty, .int .i64 0]) 36 (0, 0)) :: (tp, tapeO lv (at')) :: (O ++ R), (b7, .cells (List.toArray [.string path, .int .i64 index, .slice oo props.length oc, .slice none 0 0, .slice none 0 0, .slice none 0 0, .slice none 0 0, .string ByteArray.empty, .int .i64 0, .string owner, .string group, .int .i64 md]) 36 (0, 0)) :: (b6, .cells (List.toArray [.string ByteArray.empty, .int .i64 0, .slice none 0 0, .slice none 0 0, .slice none 0 0, .slice none 0 0, .slice none 0 0, .string ByteArray.empty, .int .i64 0, .string ByteArray.empty, .string ByteArray.empty, .int .i64 0]) 36 (0, 0)) :: (tp, tapeO lv (at' + 1)) :: (O ++ R)] mix (by kernel_rfl) rfl rfl [_, _, _] rfl ?_
    refine GS.pv (PV.all tab_ok rfl) rfl rfl rfl rfl rfl rfl ?_
    refine GS.fix (v := .slice oo props.length oc) rfl rfl rfl rfl rfl rfl (fun i' _ L' hL' => by rcases List.mem_cons.1 hL' with rfl | h; exact LV.load tab_ok rfl (Has.own 0 rfl) rfl; rw [List.mem_singleton.1 h]; exact LV.load tab_ok rfl (Has.own 0 rfl) rfl) ?_
    refine GS.pv (PV.all tab_ok rfl) rfl rfl rfl rfl rfl rfl ?_
    refine GS.factA (fun i v => ∃ b, v = .slice (some ⟨b, 0, none⟩) 4 4 ∧ Sl i v 1 4 (strs [⟨#[98, 108, 111, 99, 107]⟩, ⟨#[110, 101, 116]⟩, ⟨#[117, 115, 98]⟩, ⟨#[116, 116, 121]⟩])) (fun _ _ hi _ ⟨b, h1, h2⟩ => ⟨b, h1, h2.le hi⟩) rfl rfl rfl rfl (fun i' hi L hL => ⟨rfl, OpS.buildStrsF tab_ok rfl rfl rfl⟩) ⟨_, .head _⟩ ?_
    refine GS.turn 0 (fun _ v => ∃ s, v = .string s) (fun _ _ _ _ h => h) rfl rfl rfl rfl (by decide) rfl rfl (fun i' hi => by rintro v ⟨b, rfl, hb⟩; exact ⟨rfl, OpS.call (by kernel_rfl) rfl (One_s tp 2 lv _ (at') _ _ _ _ (hl.le hi) (by omega) rfl hb rfl (by decide) (by unfold lenOk; omega)) (fun _ _ _ _ ⟨⟨s, _, h⟩, _, hL⟩ => ⟨hL, s, h⟩)⟩) ?_
    refine GS.factA (fun _ v => ∃ s, v = .agg (List.toArray [.string ⟨#[83, 85, 66, 83, 89, 83, 84, 69, 77]⟩, .string s])) (fun _ _ _ _ h => h) rfl rfl rfl rfl (fun i' hi L hL => by rintro v ⟨s, rfl⟩; exact ⟨rfl, OpS.mono (OpS.pv (PV.all tab_ok rfl)) (fun _ _ _ _ ⟨h1, h2⟩ => ⟨h1, s, h2⟩)⟩) ⟨_, .head _⟩ ?_
    refine GS.factA (fun i v => ∃ b s, v = .slice (some ⟨b, 0, none⟩) 1 1 ∧ Sl i v 2 1 [.string ⟨#[83, 85, 66, 83, 89, 83, 84, 69, 77]⟩, .string s]) (fun _ _ hi _ ⟨b, s, h1, h2⟩ => ⟨b, s, h1, h2.le hi⟩) rfl rfl rfl rfl (fun i' hi L hL => by rintro v ⟨s, rfl⟩; exact ⟨rfl, OpS.mono (OpS.buildSliceF (sz := 2) tab_ok rfl rfl) (fun _ _ _ _ ⟨h1, b, h2, h3⟩ => ⟨h1, b, s, h2, h3⟩)⟩) ⟨_, .head _⟩ ?_
    refine GS.done rfl rfl (fun i5 hi5 => ?_)
    rintro w7 ⟨wb, ws, rfl, hw7⟩ w6 _ w5 _ w4 _
    refine RS.perm (L' := O ++ ((b7, .cells (List.toArray [.string path, .int .i64 index, .slice oo props.length oc, .slice none 0 0, .slice none 0 0, .slice none 0 0, .slice none 0 0, .string ByteArray.empty, .int .i64 0, .string owner, .string group, .int .i64 md]) 36 (0, 0)) :: (b6, .cells (List.toArray [.string ByteArray.empty, .int .i64 0, .slice none 0 0, .slice none 0 0, .slice none 0 0, .slice none 0 0, .slice none 0 0, .string ByteArray.empty, .int .i64 0, .string ByteArray.empty, .string ByteArray.empty, .int .i64 0]) 36 (0, 0)) :: (tp, tapeO lv (at' + 1)) :: (R))) ?_ ?_
    · refine perm_of_sum _ _ fun f => ?_
      simp only [List.map_append, List.map_cons, List.sum_append, List.sum_cons]
      omega
    refine RS.append tab_ok (sz := 2) (bytes := 32) (k := props.length) (m := 1) (xs := attrs props) (news := [.string ⟨#[83, 85, 66, 83, 89, 83, 84, 69, 77]⟩, .string ws]) rfl rfl rfl ⟨_, rfl, rfl⟩ ⟨_, rfl, rfl, rfl⟩ (by omega) hO rfl (hw7.rd _) (by intro c hc; simp at hc; rcases hc with rfl | rfl <;> rfl) (by omega) (by omega) ?_
    intro v' O' hO' hnil
    obtain ⟨ao', cap', rfl⟩ := SlO.shape hO'
    refine RS.perm (L' := (b7, .cells (List.toArray [.string path, .int .i64 index, .slice oo props.length oc, .slice none 0 0, .slice none 0 0, .slice none 0 0, .slice none 0 0, .string ByteArray.empty, .int .i64 0, .string owner, .string group, .int .i64 md]) 36 (0, 0)) :: (b6, .cells (List.toArray [.string ByteArray.empty, .int .i64 0, .slice none 0 0, .slice none 0 0, .slice none 0 0, .slice none 0 0, .slice none 0 0, .string ByteArray.empty, .int .i64 0, .string ByteArray.empty, .string ByteArray.empty, .int .i64 0]) 36 (0, 0)) :: (tp, tapeO lv (at' + 1)) :: (O' ++ R)) ?_ ?_
    · refine perm_of_sum _ _ fun f => ?_
      simp only [List.map_append, List.map_cons, List.sum_append, List.sum_cons]
      omega
    refine RS.pv (PV.all tab_ok rfl) rfl ?_
    refine RS.store (k := 0) tab_ok rfl rfl rfl rfl rfl rfl rfl rfl ?_
    refine RS.nil ?_
    rw [show attrs props ++ [.string ⟨#[83, 85, 66, 83, 89, 83, 84, 69, 77]⟩, .string ws] = attrs (props ++ [(⟨#[83, 85, 66, 83, 89, 83, 84, 69, 77]⟩, ws)]) by simp [attrs]] at hO'
    refine thenQ.normal ?_
    refine CS.freezeSl (L0 := (b7, .cells (List.toArray [.string path, .int .i64 index, .slice ao' (props.length + 1) cap', .slice none 0 0, .slice none 0 0, .slice none 0 0, .slice none 0 0, .string ByteArray.empty, .int .i64 0, .string owner, .string group, .int .i64 md]) 36 (0, 0)) :: (b6, .cells (List.toArray [.string ByteArray.empty, .int .i64 0, .slice none 0 0, .slice none 0 0, .slice none 0 0, .slice none 0 0, .slice none 0 0, .string ByteArray.empty, .int .i64 0, .string ByteArray.empty, .string ByteArray.empty, .int .i64 0]) 36 (0, 0)) :: (tp, tapeO lv (at' + 1)) :: R) hO' ?_ (fun i2 hi2 g2 => ?_)
    · refine perm_of_sum _ _ fun f => ?_
      simp only [List.map_append, List.map_cons, List.sum_append, List.sum_cons]
      omega
    replace hl := (hl.le hi5).le hi2
    clear hks hO hO' hw7
    repeat' (first
      | refine CS.cut (x := .seq (.region 12 _ _) _) [0, 6, 7] (fun vs i' L' => ∃ (at2 : Int) (nme : ByteArray), at_ ≤ at2 ∧ at2 ≤ at_ + 34 ∧ vs = [.pointer (some ⟨tp, 0, none⟩), .pointer (some ⟨b6, 0, none⟩), .pointer (some ⟨b7, 0, none⟩)] ∧ L' = (b7, .cells (List.toArray [.string path, .int .i64 index, .slice ao' (props.length + 1) cap', .slice tga tg.length tgc, .slice lna ln.length lnc, .slice rna rn.length rnc, .slice lda ld.length ldc, .string nme, .int .i64 0, .string owner, .string group, .int .i64 md]) 36 (0, 0)) :: (b6, .cells (List.toArray [.string ByteArray.empty, .int .i64 0, .slice none 0 0, .slice none 0 0, .slice none 0 0, .slice none 0 0, .slice none 0 0, .string ByteArray.empty, .int .i64 0, .string ByteArray.empty, .string ByteArray.empty, .int .i64 0]) 36 (0, 0)) :: (tp, tapeO lv (at2)) :: R) ?_ ?_
      | refine CS.seq ?_
      | refine thenQ.normal ?_
      | refine CS.cond_true rfl ?_
      | refine CS.cond_false rfl ?_
      | refine CS.skip ?_
      | (refine CS.region (id := 0) ?_;
          refine RS.alloc tab_ok rfl rfl (fun b => ?_);
          refine RS.nil ?_)
      | (refine CS.region (id := 1) ?_;
          refine RS.pv (PV.all tab_ok rfl) rfl ?_;
          refine RS.pv (PV.all tab_ok rfl) rfl ?_;
          refine RS.pv (PV.all tab_ok rfl) rfl ?_)
      | (refine CS.region (id := 8) ?_;
          refine RS.pv (PV.all tab_ok rfl) rfl ?_;
          (refine RS.buildStrsF tab_ok rfl rfl rfl rfl (fun bb i2 hi2 hbs => ?_); replace hl := hl.le hi2; replace g2 := g2.le hi2);
          (all_goals (refine RS.call (some_s tp 2 lv _ (at' + 1) _ _ _ _ hl (by omega) rfl hbs rfl (by omega)) rfl (by kernel_rfl) rfl ?_; rintro v i3 L3 hi3 ⟨⟨tg, gtg, subtg⟩, rfl⟩; replace hl := hl.le hi3; replace g2 := g2.le hi3; obtain ⟨tga, tgc, rfl, _⟩ := id gtg; have letg : tg.length ≤ 4 := subtg.length_le));
          (all_goals refine RS.pv (PV.all tab_ok rfl) rfl ?_);
          (all_goals (first | refine RS.store (k := 0) tab_ok rfl rfl rfl rfl rfl rfl rfl rfl ?_ | refine RS.store (k := 1) tab_ok rfl rfl rfl rfl rfl rfl rfl rfl ?_ | refine RS.store (k := 2) tab_ok rfl rfl rfl rfl rfl rfl rfl rfl ?_));
          (all_goals refine RS.nil ?_))
      | (refine CS.region (id := 9) ?_;
          refine RS.pv (PV.all tab_ok rfl) rfl ?_;
          (refine RS.buildStrsF tab_ok rfl rfl rfl rfl (fun bb i2 hi2 hbs => ?_); replace hl := hl.le hi2; replace g2 := g2.le hi2; replace gtg := gtg.le hi2);
          (all_goals (refine RS.call (some_s tp 2 lv _ (at' + 1 + ((4 : Nat) : Int)) _ _ _ _ hl (by omega) rfl hbs rfl (by omega)) rfl (by kernel_rfl) rfl ?_; rintro v i3 L3 hi3 ⟨⟨ln, gln, subln⟩, rfl⟩; replace hl := hl.le hi3; replace g2 := g2.le hi3; replace gtg := gtg.le hi3; obtain ⟨lna, lnc, rfl, _⟩ := id gln; have leln : ln.length ≤ 4 := subln.length_le));
          (all_goals refine RS.pv (PV.all tab_ok rfl) rfl ?_);
          (all_goals (first | refine RS.store (k := 0) tab_ok rfl rfl rfl rfl rfl rfl rfl rfl ?_ | refine RS.store (k := 1) tab_ok rfl rfl rfl rfl rfl rfl rfl rfl ?_ | refine RS.store (k := 2) tab_ok rfl rfl rfl rfl rfl rfl rfl rfl ?_));
          (all_goals refine RS.nil ?_))
      | (refine CS.region (id := 10) ?_;
          refine RS.pv (PV.all tab_ok rfl) rfl ?_;
          (refine RS.buildStrsF tab_ok rfl rfl rfl rfl (fun bb i2 hi2 hbs => ?_); replace hl := hl.le hi2; replace g2 := g2.le hi2; replace gtg := gtg.le hi2; replace gln := gln.le hi2);
          (all_goals (refine RS.call (some_s tp 2 lv _ (at' + 1 + ((4 : Nat) : Int) + ((4 : Nat) : Int)) _ _ _ _ hl (by omega) rfl hbs rfl (by omega)) rfl (by kernel_rfl) rfl ?_; rintro v i3 L3 hi3 ⟨⟨rn, grn, subrn⟩, rfl⟩; replace hl := hl.le hi3; replace g2 := g2.le hi3; replace gtg := gtg.le hi3; replace gln := gln.le hi3; obtain ⟨rna, rnc, rfl, _⟩ := id grn; have lern : rn.length ≤ 3 := subrn.length_le));
          (all_goals refine RS.pv (PV.all tab_ok rfl) rfl ?_);
          (all_goals (first | refine RS.store (k := 0) tab_ok rfl rfl rfl rfl rfl rfl rfl rfl ?_ | refine RS.store (k := 1) tab_ok rfl rfl rfl rfl rfl rfl rfl rfl ?_ | refine RS.store (k := 2) tab_ok rfl rfl rfl rfl rfl rfl rfl rfl ?_));
          (all_goals refine RS.nil ?_))
      | (refine CS.region (id := 11) ?_;
          refine RS.pv (PV.all tab_ok rfl) rfl ?_;
          (refine RS.buildStrsF tab_ok rfl rfl rfl rfl (fun bb i2 hi2 hbs => ?_); replace hl := hl.le hi2; replace g2 := g2.le hi2; replace gtg := gtg.le hi2; replace gln := gln.le hi2; replace grn := grn.le hi2);
          (all_goals (refine RS.call (some_s tp 2 lv _ (at' + 1 + ((4 : Nat) : Int) + ((4 : Nat) : Int) + ((3 : Nat) : Int)) _ _ _ _ hl (by omega) rfl hbs rfl (by omega)) rfl (by kernel_rfl) rfl ?_; rintro v i3 L3 hi3 ⟨⟨ld, gld, subld⟩, rfl⟩; replace hl := hl.le hi3; replace g2 := g2.le hi3; replace gtg := gtg.le hi3; replace gln := gln.le hi3; replace grn := grn.le hi3; obtain ⟨lda, ldc, rfl, _⟩ := id gld; have leld : ld.length ≤ 3 := subld.length_le));
          (all_goals refine RS.pv (PV.all tab_ok rfl) rfl ?_);
          (all_goals (first | refine RS.store (k := 0) tab_ok rfl rfl rfl rfl rfl rfl rfl rfl ?_ | refine RS.store (k := 1) tab_ok rfl rfl rfl rfl rfl rfl rfl rfl ?_ | refine RS.store (k := 2) tab_ok rfl rfl rfl rfl rfl rfl rfl rfl ?_));
          (all_goals refine RS.nil ?_))
      | (refine CS.region (id := 12) ?_;
          refine RS.pv (PV.all tab_ok rfl) rfl ?_;
          (refine RS.call (Next_s tp 2 lv (at' + 1 + ((4 : Nat) : Int) + ((4 : Nat) : Int) + ((3 : Nat) : Int) + ((3 : Nat) : Int)) 4 _ _ (by omega) hl (by omega) rfl) rfl (by kernel_rfl) rfl ?_; rintro v i3 L3 hi3 ⟨⟨x1, rfl⟩, rfl, rfl⟩; have hx1 := foldI_bd x1 (n := 4) (by omega));
          (all_goals (first | refine RS.pv (PV.all tab_ok rfl) rfl ?_ | refine RS.pv (PV.eqlT rfl rfl (by omega)) rfl ?_ | refine RS.pv (PV.eqlF rfl rfl (by omega)) rfl ?_ | refine RS.ifEql rfl rfl rfl (fun h => ?_) (fun h => ?_) | refine RS.ifSeql rfl rfl rfl (fun h => ?_) (fun h => ?_)));
          (all_goals refine RS.nil ?_))
      | (refine CS.region (id := 13) ?_;
          refine RS.pv (PV.all tab_ok rfl) rfl ?_;
          (refine RS.buildStrsF tab_ok rfl rfl rfl rfl (fun bb i2 hi2 hbs => ?_); replace hl := hl.le hi2; replace g2 := g2.le hi2; replace gtg := gtg.le hi2; replace gln := gln.le hi2; replace grn := grn.le hi2; replace gld := gld.le hi2);
          (all_goals (refine RS.call (One_s tp 2 lv _ (at' + 1 + ((4 : Nat) : Int) + ((4 : Nat) : Int) + ((3 : Nat) : Int) + ((3 : Nat) : Int) + 1) _ _ _ _ hl (by omega) rfl hbs rfl (by decide) (by unfold lenOk; omega)) rfl (by kernel_rfl) rfl ?_; rintro v i3 L3 hi3 ⟨⟨nme, _, rfl⟩, rfl, rfl⟩));
          (all_goals refine RS.pv (PV.all tab_ok rfl) rfl ?_);
          (all_goals (first | refine RS.store (k := 0) tab_ok rfl rfl rfl rfl rfl rfl rfl rfl ?_ | refine RS.store (k := 1) tab_ok rfl rfl rfl rfl rfl rfl rfl rfl ?_ | refine RS.store (k := 2) tab_ok rfl rfl rfl rfl rfl rfl rfl rfl ?_));
          (all_goals refine RS.nil ?_))
      | refine CS.ret ?_
      | refine thenQ.ret ?_
      | refine blkQ.ret ?_
      | refine retQ.ret ?_
      | refine CS.block ?_
      | refine CS.exit ?_
      | refine thenQ.exit ?_
      | refine blkQ.normal ?_
      | refine blkQ.here ?_
      | refine blkQ.past rfl ?_
      | refine retQ.normal ?_)
    · exact ⟨_, nme, by omega, by omega, rfl, rfl⟩
    · exact ⟨_, ByteArray.empty, by omega, by omega, rfl, rfl⟩
    rintro fr3 vs i4 L4 hi4 ⟨at2, nme, ha3, ha4, rfl, rfl⟩
    replace hl := hl.le hi4; replace g2 := g2.le hi4; replace gtg := gtg.le hi4; replace gln := gln.le hi4; replace grn := grn.le hi4; replace gld := gld.le hi4
    repeat' (first
      | refine CS.cut (x := .seq (.region 14 _ _) _) [0, 6, 7] (fun vs i' L' => ∃ (at2 : Int) (prio : Int), at_ ≤ at2 ∧ at2 ≤ at_ + 36 ∧ vs = [.pointer (some ⟨tp, 0, none⟩), .pointer (some ⟨b6, 0, none⟩), .pointer (some ⟨b7, 0, none⟩)] ∧ L' = (b7, .cells (List.toArray [.string path, .int .i64 index, .slice ao' (props.length + 1) cap', .slice tga tg.length tgc, .slice lna ln.length lnc, .slice rna rn.length rnc, .slice lda ld.length ldc, .string nme, .int .i64 prio, .string owner, .string group, .int .i64 md]) 36 (0, 0)) :: (b6, .cells (List.toArray [.string ByteArray.empty, .int .i64 0, .slice none 0 0, .slice none 0 0, .slice none 0 0, .slice none 0 0, .slice none 0 0, .string ByteArray.empty, .int .i64 0, .string ByteArray.empty, .string ByteArray.empty, .int .i64 0]) 36 (0, 0)) :: (tp, tapeO lv (at2)) :: R) ?_ ?_
      | refine CS.seq ?_
      | refine thenQ.normal ?_
      | refine CS.cond_true rfl ?_
      | refine CS.cond_false rfl ?_
      | refine CS.skip ?_
      | (refine CS.region (id := 0) ?_;
          refine RS.alloc tab_ok rfl rfl (fun b => ?_);
          refine RS.nil ?_)
      | (refine CS.region (id := 1) ?_;
          refine RS.pv (PV.all tab_ok rfl) rfl ?_;
          refine RS.pv (PV.all tab_ok rfl) rfl ?_;
          refine RS.pv (PV.all tab_ok rfl) rfl ?_)
      | (refine CS.region (id := 2) ?_;
          refine RS.pv (PV.all tab_ok rfl) rfl ?_)
      | (refine CS.region (id := 3) ?_;
          (first | refine RS.pv (PV.lssT rfl rfl (by omega)) rfl ?_ | refine RS.pv (PV.lssF rfl rfl (by omega)) rfl ?_ | refine RS.ifLss rfl rfl rfl (fun h => ?_) (fun h => ?_));
          (all_goals refine RS.nil ?_))
      | (refine CS.region (id := 4) ?_;
          (first | refine RS.pv (PV.indexAddr tab_ok rfl rfl rfl (by omega)) rfl ?_ | refine RS.pv (PV.indexAddrA tab_ok rfl rfl rfl (by omega)) rfl ?_);
          (first | refine RS.lv (LV.load tab_ok rfl (Has.own 0 rfl) rfl) rfl ?_ | refine RS.lv (LV.load tab_ok rfl (Has.own 1 rfl) rfl) rfl ?_ | refine RS.lv (LV.load tab_ok rfl (Has.own 2 rfl) rfl) rfl ?_);
          refine RS.pv (PV.all tab_ok rfl) rfl ?_;
          refine RS.nil ?_)
      | (refine CS.drawQ (id := 5) mix (by kernel_rfl) ?_;
          refine QS.pv (PV.all tab_ok rfl) rfl ?_;
          (first | refine QS.lv (LV.load tab_ok rfl (Has.own 0 rfl) rfl) rfl ?_ | refine QS.lv (LV.load tab_ok rfl (Has.own 1 rfl) rfl) rfl ?_ | refine QS.lv (LV.load tab_ok rfl (Has.own 2 rfl) rfl) rfl ?_);
          refine QS.pv (PV.all tab_ok rfl) rfl ?_;
          refine QS.pv (PV.all tab_ok rfl) rfl ?_)
      | (refine CS.region (id := 6) ?_;
          refine RS.pv (PV.add rfl rfl (by omega)) rfl ?_;
          refine RS.pv (PV.all tab_ok rfl) rfl ?_;
          refine RS.nil ?_)
      | (refine CS.drawQ (id := 7) mix (by kernel_rfl) ?_;
          refine QS.pv (PV.all tab_ok rfl) rfl ?_;
          (first | refine QS.lv (LV.load tab_ok rfl (Has.own 0 rfl) rfl) rfl ?_ | refine QS.lv (LV.load tab_ok rfl (Has.own 1 rfl) rfl) rfl ?_ | refine QS.lv (LV.load tab_ok rfl (Has.own 2 rfl) rfl) rfl ?_);
          refine QS.pv (PV.all tab_ok rfl) rfl ?_)
      | (refine CS.region (id := 8) ?_;
          refine RS.pv (PV.all tab_ok rfl) rfl ?_)
      | (refine CS.region (id := 9) ?_;
          refine RS.pv (PV.all tab_ok rfl) rfl ?_)
      | (refine CS.region (id := 10) ?_;
          refine RS.pv (PV.all tab_ok rfl) rfl ?_)
      | (refine CS.region (id := 11) ?_;
          refine RS.pv (PV.all tab_ok rfl) rfl ?_)
      | (refine CS.region (id := 14) ?_;
          refine RS.pv (PV.all tab_ok rfl) rfl ?_;
          (refine RS.call (Next_s tp 2 lv (at2) 3 _ _ (by omega) hl (by omega) rfl) rfl (by kernel_rfl) rfl ?_; rintro v i3 L3 hi3 ⟨⟨x2, rfl⟩, rfl, rfl⟩; have hx2 := foldI_bd x2 (n := 3) (by omega));
          (all_goals (first | refine RS.pv (PV.all tab_ok rfl) rfl ?_ | refine RS.pv (PV.eqlT rfl rfl (by omega)) rfl ?_ | refine RS.pv (PV.eqlF rfl rfl (by omega)) rfl ?_ | refine RS.ifEql rfl rfl rfl (fun h => ?_) (fun h => ?_) | refine RS.ifSeql rfl rfl rfl (fun h => ?_) (fun h => ?_)));
          (all_goals refine RS.nil ?_))
      | (refine CS.region (id := 15) ?_;
          refine RS.pv (PV.all tab_ok rfl) rfl ?_;
          (refine RS.call (Next_s tp 2 lv (at2 + 1) 2001 _ _ (by omega) hl (by omega) rfl) rfl (by kernel_rfl) rfl ?_; rintro v i3 L3 hi3 ⟨⟨x3, rfl⟩, rfl, rfl⟩; have hx3 := foldI_bd x3 (n := 2001) (by omega));
          (all_goals refine RS.pv (PV.sub rfl rfl (by omega)) rfl ?_);
          (all_goals refine RS.pv (PV.all tab_ok rfl) rfl ?_);
          (all_goals (first | refine RS.store (k := 0) tab_ok rfl rfl rfl rfl rfl rfl rfl rfl ?_ | refine RS.store (k := 1) tab_ok rfl rfl rfl rfl rfl rfl rfl rfl ?_ | refine RS.store (k := 2) tab_ok rfl rfl rfl rfl rfl rfl rfl rfl ?_));
          (all_goals refine RS.nil ?_))
      | refine CS.ret ?_
      | refine thenQ.ret ?_
      | refine blkQ.ret ?_
      | refine retQ.ret ?_
      | refine CS.block ?_
      | refine CS.exit ?_
      | refine thenQ.exit ?_
      | refine blkQ.normal ?_
      | refine blkQ.here ?_
      | refine blkQ.past rfl ?_
      | refine retQ.normal ?_)
    · exact ⟨_, _, by omega, by omega, rfl, rfl⟩
    · exact ⟨_, 0, by omega, by omega, rfl, rfl⟩
    clear ha3 ha4
    clear at2
    rintro fr4 vs i5 L5 hi5 ⟨at2, prio, ha3, ha4, rfl, rfl⟩
    replace hl := hl.le hi5; replace g2 := g2.le hi5; replace gtg := gtg.le hi5; replace gln := gln.le hi5; replace grn := grn.le hi5; replace gld := gld.le hi5
    repeat' (first
      | refine CS.cut (x := .seq (.region 16 _ _) _) [0, 6, 7] (fun vs i' L' => ∃ (at2 : Int) (ow gr : ByteArray) (mo : Int) (v4 : Value) (lk : List ByteArray), Sl i' v4 1 lk.length (strs lk) ∧ lk.Nodup ∧ lk.length ≤ 4 ∧ at_ ≤ at2 ∧ at2 ≤ at_ + 40 ∧ vs = [.pointer (some ⟨tp, 0, none⟩), .pointer (some ⟨b6, 0, none⟩), .pointer (some ⟨b7, 0, none⟩)] ∧ L' = (b7, .cells (List.toArray [.string path, .int .i64 index, .slice ao' (props.length + 1) cap', .slice tga tg.length tgc, v4, .slice rna rn.length rnc, .slice lda ld.length ldc, .string nme, .int .i64 prio, .string ow, .string gr, .int .i64 mo]) 36 (0, 0)) :: (b6, .cells (List.toArray [.string ByteArray.empty, .int .i64 0, .slice none 0 0, .slice none 0 0, .slice none 0 0, .slice none 0 0, .slice none 0 0, .string ByteArray.empty, .int .i64 0, .string ByteArray.empty, .string ByteArray.empty, .int .i64 0]) 36 (0, 0)) :: (tp, tapeO lv (at2)) :: R) ?_ ?_
      | refine CS.seq ?_
      | refine thenQ.normal ?_
      | refine CS.cond_true rfl ?_
      | refine CS.cond_false rfl ?_
      | refine CS.skip ?_
      | (refine CS.region (id := 0) ?_;
          refine RS.alloc tab_ok rfl rfl (fun b => ?_);
          refine RS.nil ?_)
      | (refine CS.region (id := 1) ?_;
          refine RS.pv (PV.all tab_ok rfl) rfl ?_;
          refine RS.pv (PV.all tab_ok rfl) rfl ?_;
          refine RS.pv (PV.all tab_ok rfl) rfl ?_)
      | (refine CS.region (id := 2) ?_;
          refine RS.pv (PV.all tab_ok rfl) rfl ?_)
      | (refine CS.region (id := 3) ?_;
          (first | refine RS.pv (PV.lssT rfl rfl (by omega)) rfl ?_ | refine RS.pv (PV.lssF rfl rfl (by omega)) rfl ?_ | refine RS.ifLss rfl rfl rfl (fun h => ?_) (fun h => ?_));
          (all_goals refine RS.nil ?_))
      | (refine CS.region (id := 4) ?_;
          (first | refine RS.pv (PV.indexAddr tab_ok rfl rfl rfl (by omega)) rfl ?_ | refine RS.pv (PV.indexAddrA tab_ok rfl rfl rfl (by omega)) rfl ?_);
          (first | refine RS.lv (LV.load tab_ok rfl (Has.own 0 rfl) rfl) rfl ?_ | refine RS.lv (LV.load tab_ok rfl (Has.own 1 rfl) rfl) rfl ?_ | refine RS.lv (LV.load tab_ok rfl (Has.own 2 rfl) rfl) rfl ?_);
          refine RS.pv (PV.all tab_ok rfl) rfl ?_;
          refine RS.nil ?_)
      | (refine CS.drawQ (id := 5) mix (by kernel_rfl) ?_;
          refine QS.pv (PV.all tab_ok rfl) rfl ?_;
          (first | refine QS.lv (LV.load tab_ok rfl (Has.own 0 rfl) rfl) rfl ?_ | refine QS.lv (LV.load tab_ok rfl (Has.own 1 rfl) rfl) rfl ?_ | refine QS.lv (LV.load tab_ok rfl (Has.own 2 rfl) rfl) rfl ?_);
          refine QS.pv (PV.all tab_ok rfl) rfl ?_;
          refine QS.pv (PV.all tab_ok rfl) rfl ?_)
      | (refine CS.region (id := 6) ?_;
          refine RS.pv (PV.add rfl rfl (by omega)) rfl ?_;
          refine RS.pv (PV.all tab_ok rfl) rfl ?_;
          refine RS.nil ?_)
      | (refine CS.drawQ (id := 7) mix (by kernel_rfl) ?_;
          refine QS.pv (PV.all tab_ok rfl) rfl ?_;
          (first | refine QS.lv (LV.load tab_ok rfl (Has.own 0 rfl) rfl) rfl ?_ | refine QS.lv (LV.load tab_ok rfl (Has.own 1 rfl) rfl) rfl ?_ | refine QS.lv (LV.load tab_ok rfl (Has.own 2 rfl) rfl) rfl ?_);
          refine QS.pv (PV.all tab_ok rfl) rfl ?_)
      | (refine CS.region (id := 8) ?_;
          refine RS.pv (PV.all tab_ok rfl) rfl ?_)
      | (refine CS.region (id := 9) ?_;
          refine RS.pv (PV.all tab_ok rfl) rfl ?_)
      | (refine CS.region (id := 10) ?_;
          refine RS.pv (PV.all tab_ok rfl) rfl ?_)
      | (refine CS.region (id := 11) ?_;
          refine RS.pv (PV.all tab_ok rfl) rfl ?_)
      | (refine CS.region (id := 16) ?_;
          refine RS.pv (PV.all tab_ok rfl) rfl ?_;
          (refine RS.call (Next_s tp 2 lv (at2) 4 _ _ (by omega) hl (by omega) rfl) rfl (by kernel_rfl) rfl ?_; rintro v i3 L3 hi3 ⟨⟨x4, rfl⟩, rfl, rfl⟩; have hx4 := foldI_bd x4 (n := 4) (by omega));
          (all_goals (first | refine RS.pv (PV.all tab_ok rfl) rfl ?_ | refine RS.pv (PV.eqlT rfl rfl (by omega)) rfl ?_ | refine RS.pv (PV.eqlF rfl rfl (by omega)) rfl ?_ | refine RS.ifEql rfl rfl rfl (fun h => ?_) (fun h => ?_) | refine RS.ifSeql rfl rfl rfl (fun h => ?_) (fun h => ?_)));
          (all_goals refine RS.nil ?_))
      | (refine CS.region (id := 17) ?_;
          refine RS.pv (PV.all tab_ok rfl) rfl ?_;
          (first | refine RS.store (k := 0) tab_ok rfl rfl rfl rfl rfl rfl rfl rfl ?_ | refine RS.store (k := 1) tab_ok rfl rfl rfl rfl rfl rfl rfl rfl ?_ | refine RS.store (k := 2) tab_ok rfl rfl rfl rfl rfl rfl rfl rfl ?_);
          refine RS.pv (PV.all tab_ok rfl) rfl ?_;
          (first | refine RS.store (k := 0) tab_ok rfl rfl rfl rfl rfl rfl rfl rfl ?_ | refine RS.store (k := 1) tab_ok rfl rfl rfl rfl rfl rfl rfl rfl ?_ | refine RS.store (k := 2) tab_ok rfl rfl rfl rfl rfl rfl rfl rfl ?_);
          refine RS.pv (PV.all tab_ok rfl) rfl ?_;
          (first | refine RS.store (k := 0) tab_ok rfl rfl rfl rfl rfl rfl rfl rfl ?_ | refine RS.store (k := 1) tab_ok rfl rfl rfl rfl rfl rfl rfl rfl ?_ | refine RS.store (k := 2) tab_ok rfl rfl rfl rfl rfl rfl rfl rfl ?_);
          refine RS.pv (PV.all tab_ok rfl) rfl ?_;
          (first | refine RS.store (k := 0) tab_ok rfl rfl rfl rfl rfl rfl rfl rfl ?_ | refine RS.store (k := 1) tab_ok rfl rfl rfl rfl rfl rfl rfl rfl ?_ | refine RS.store (k := 2) tab_ok rfl rfl rfl rfl rfl rfl rfl rfl ?_);
          refine RS.nil ?_)
      | refine CS.ret ?_
      | refine thenQ.ret ?_
      | refine blkQ.ret ?_
      | refine retQ.ret ?_
      | refine CS.block ?_
      | refine CS.exit ?_
      | refine thenQ.exit ?_
      | refine blkQ.normal ?_
      | refine blkQ.here ?_
      | refine blkQ.past rfl ?_
      | refine retQ.normal ?_)
    · exact ⟨_, _, _, _, _, [], Sl.nil _ 1, List.nodup_nil, by decide, by omega, by omega, rfl, rfl⟩
    · exact ⟨_, _, _, _, _, ln, gln, subln.nodup (by decide), by omega, by omega, by omega, rfl, rfl⟩
    clear ha3 ha4
    clear at2
    rintro fr5 vs i6 L6 hi6 ⟨at2, ow, gr, mo, v4, lk, glk, hnd, hlk, ha3, ha4, rfl, rfl⟩
    replace hl := hl.le hi6; replace g2 := g2.le hi6; replace gtg := gtg.le hi6; replace gln := gln.le hi6; replace grn := grn.le hi6; replace gld := gld.le hi6
    obtain ⟨lka, lkc, rfl, _⟩ := id glk
    repeat' (first
      | refine CS.seq ?_
      | refine thenQ.normal ?_
      | refine CS.cond_true rfl ?_
      | refine CS.cond_false rfl ?_
      | refine CS.skip ?_
      | (refine CS.region (id := 0) ?_;
          refine RS.alloc tab_ok rfl rfl (fun b => ?_);
          refine RS.nil ?_)
      | (refine CS.region (id := 1) ?_;
          refine RS.pv (PV.all tab_ok rfl) rfl ?_;
          refine RS.pv (PV.all tab_ok rfl) rfl ?_;
          refine RS.pv (PV.all tab_ok rfl) rfl ?_)
      | (refine CS.region (id := 2) ?_;
          refine RS.pv (PV.all tab_ok rfl) rfl ?_)
      | (refine CS.region (id := 3) ?_;
          (first | refine RS.pv (PV.lssT rfl rfl (by omega)) rfl ?_ | refine RS.pv (PV.lssF rfl rfl (by omega)) rfl ?_ | refine RS.ifLss rfl rfl rfl (fun h => ?_) (fun h => ?_));
          (all_goals refine RS.nil ?_))
      | (refine CS.region (id := 4) ?_;
          (first | refine RS.pv (PV.indexAddr tab_ok rfl rfl rfl (by omega)) rfl ?_ | refine RS.pv (PV.indexAddrA tab_ok rfl rfl rfl (by omega)) rfl ?_);
          (first | refine RS.lv (LV.load tab_ok rfl (Has.own 0 rfl) rfl) rfl ?_ | refine RS.lv (LV.load tab_ok rfl (Has.own 1 rfl) rfl) rfl ?_ | refine RS.lv (LV.load tab_ok rfl (Has.own 2 rfl) rfl) rfl ?_);
          refine RS.pv (PV.all tab_ok rfl) rfl ?_;
          refine RS.nil ?_)
      | (refine CS.drawQ (id := 5) mix (by kernel_rfl) ?_;
          refine QS.pv (PV.all tab_ok rfl) rfl ?_;
          (first | refine QS.lv (LV.load tab_ok rfl (Has.own 0 rfl) rfl) rfl ?_ | refine QS.lv (LV.load tab_ok rfl (Has.own 1 rfl) rfl) rfl ?_ | refine QS.lv (LV.load tab_ok rfl (Has.own 2 rfl) rfl) rfl ?_);
          refine QS.pv (PV.all tab_ok rfl) rfl ?_;
          refine QS.pv (PV.all tab_ok rfl) rfl ?_)
      | (refine CS.region (id := 6) ?_;
          refine RS.pv (PV.add rfl rfl (by omega)) rfl ?_;
          refine RS.pv (PV.all tab_ok rfl) rfl ?_;
          refine RS.nil ?_)
      | (refine CS.drawQ (id := 7) mix (by kernel_rfl) ?_;
          refine QS.pv (PV.all tab_ok rfl) rfl ?_;
          (first | refine QS.lv (LV.load tab_ok rfl (Has.own 0 rfl) rfl) rfl ?_ | refine QS.lv (LV.load tab_ok rfl (Has.own 1 rfl) rfl) rfl ?_ | refine QS.lv (LV.load tab_ok rfl (Has.own 2 rfl) rfl) rfl ?_);
          refine QS.pv (PV.all tab_ok rfl) rfl ?_)
      | (refine CS.region (id := 8) ?_;
          refine RS.pv (PV.all tab_ok rfl) rfl ?_)
      | (refine CS.region (id := 9) ?_;
          refine RS.pv (PV.all tab_ok rfl) rfl ?_)
      | (refine CS.region (id := 10) ?_;
          refine RS.pv (PV.all tab_ok rfl) rfl ?_)
      | (refine CS.region (id := 11) ?_;
          refine RS.pv (PV.all tab_ok rfl) rfl ?_)
      | (refine CS.region (id := 18) ?_;
          (first | refine RS.lv (LV.load tab_ok rfl (Has.own 0 rfl) rfl) rfl ?_ | refine RS.lv (LV.load tab_ok rfl (Has.own 1 rfl) rfl) rfl ?_ | refine RS.lv (LV.load tab_ok rfl (Has.own 2 rfl) rfl) rfl ?_);
          (first | refine RS.store (k := 0) tab_ok rfl rfl rfl rfl rfl rfl rfl rfl ?_ | refine RS.store (k := 1) tab_ok rfl rfl rfl rfl rfl rfl rfl rfl ?_ | refine RS.store (k := 2) tab_ok rfl rfl rfl rfl rfl rfl rfl rfl ?_);
          refine RS.nil ?_)
      | refine CS.ret ?_
      | refine thenQ.ret ?_
      | refine blkQ.ret ?_
      | refine retQ.ret ?_
      | refine CS.block ?_
      | refine CS.exit ?_
      | refine thenQ.exit ?_
      | refine blkQ.normal ?_
      | refine blkQ.here ?_
      | refine blkQ.past rfl ?_
      | refine retQ.normal ?_)
    refine ⟨b6, 0, _, _, _, _, rfl, Has.own 1 rfl, rfl, _, ⟨path, index, props ++ [(⟨#[83, 85, 66, 83, 89, 83, 84, 69, 77]⟩, ws)], tg, lk, rn, ld, nme, prio, ow, gr, mo⟩, _, [_, _], rfl, ⟨_, _, _, _, _, rfl, (by rw [List.length_append]; exact g2), gtg, glk, grn, gld⟩, ⟨⟨?_, ?_, ?_, ?_, ?_⟩, rfl, rfl, hnd, hlk, ⟨?_, letg, lern, leld⟩⟩, ?_, ?_, rfl⟩
    all_goals first | omega | (unfold lenOk; simp; omega) | (rw [List.length_append]; show _ + 1 ≤ 7; omega)
theorem Record_s (tp k : Nat) (lv : Value) (at_ : Int) (path : ByteArray) (index : Int) (i : Imm) (L : SH) (hl : IntSl i lv) (ha : 0 ≤ at_ ∧ at_ ≤ 10000000) (hk : L[k]? = some (tp, tapeO lv at_)) :
    FnS Try.prog 28 [.pointer (some ⟨tp, 0, none⟩), .string path, .int .i64 index] i L fun v i' L' => ∃ rc r at', v = .agg (List.toArray rc) ∧ RecV i' rc r ∧ Made r path index ∧ at_ ≤ at' ∧ at' ≤ at_ + 40 ∧ L' = L.set k (tp, tapeO lv at') := by
  refine (FnS.tapeK (φ := fun v i' o' => ∃ rc r at', v = .agg (List.toArray rc) ∧ RecV i' rc r ∧ Made r path index ∧ at_ ≤ at' ∧ at' ≤ at_ + 40 ∧ o' = tapeO lv at') hk fun R => ?_).mono fun v i' L' _ ⟨o', ⟨rc, r, at', h1, h2, h3, h4, h5, h6⟩, h7⟩ => ⟨rc, r, at', h1, h2, h3, h4, h5, by rw [h7, h6]⟩
  exact (Record0_s tp lv at_ path index i R hl ha).mono fun v i' L' _ ⟨rc, r, at', h1, h2, h3, h4, h5, h6⟩ => ⟨_, ⟨rc, r, at', h1, h2, h3, h4, h5, rfl⟩, h6⟩
end Go.Proofs.Ytmcajldlcomegaa
