/- RescanCompares, part 4: the sorted keys of a set of texts. -/
import Derived.Test.YtmcajldlcomegaaW48
import Derived.Test.YtmcajldlcomegaaW45
namespace Go.Proofs.Ytmcajldlcomegaa
open Go Go.Eng Go.RowKit

/-! ### texts in order -/
def bl (a b : ByteArray) : Prop := Op.bytesLess a.toList b.toList = true
theorem bl_iff {a b : ByteArray} : bl a b ↔ a.data.toList < b.data.toList := by
  unfold bl
  rw [bytesLess_eq, Lib.toList_data, Lib.toList_data]
  simp
theorem bl_irr (a : ByteArray) : ¬ bl a a := fun h => List.lt_irrefl _ (bl_iff.1 h)
theorem bl_trans {a b c : ByteArray} (h : bl a b) (k : bl b c) : bl a c := bl_iff.2 (List.lt_trans (bl_iff.1 h) (bl_iff.1 k))
theorem ba_eq {a b : ByteArray} (h : a.data.toList = b.data.toList) : a = b := by
  cases a; cases b
  simp only [ByteArray.mk.injEq]
  exact Array.ext' h
theorem bl_total {a b : ByteArray} (h : a ≠ b) (k : ¬ bl a b) : bl b a := by
  rw [bl_iff] at k ⊢
  by_cases hn : b.data.toList < a.data.toList
  · exact hn
  · exact absurd (ba_eq (List.le_antisymm (List.not_lt.1 hn) (List.not_lt.1 k))) h
theorem bl_asymm {a b : ByteArray} (h : bl a b) : ¬ bl b a := fun k => bl_irr a (bl_trans h k)
def Asc (l : List ByteArray) : Prop := l.Pairwise bl
/-- one list for one set -/
theorem Asc.unique : ∀ {l l' : List ByteArray}, Asc l → Asc l' → (∀ a, a ∈ l ↔ a ∈ l') → l = l'
  | [], [], _, _, _ => rfl
  | [], b :: _, _, _, h => absurd ((h b).2 (List.mem_cons_self ..)) nofun
  | a :: _, [], _, _, h => absurd ((h a).1 (List.mem_cons_self ..)) nofun
  | a :: l, b :: l', h1, h2, h => by
    obtain ⟨p1, q1⟩ := List.pairwise_cons.1 h1
    obtain ⟨p2, q2⟩ := List.pairwise_cons.1 h2
    have hab : a = b := by
      rcases List.mem_cons.1 ((h a).1 (List.mem_cons_self ..)) with e | e
      · exact e
      · rcases List.mem_cons.1 ((h b).2 (List.mem_cons_self ..)) with e' | e'
        · exact e'.symm
        · exact absurd (bl_trans (p1 b e') (p2 a e)) (bl_irr a)
    subst hab
    rw [Asc.unique q1 q2 fun x => by
      have hx := h x
      simp only [List.mem_cons] at hx
      constructor
      · intro hm
        exact (hx.1 (.inr hm)).resolve_left fun e => bl_irr a (by rw [← e] at p1 ⊢; exact p1 _ hm)
      · intro hm
        exact (hx.2 (.inr hm)).resolve_left fun e => bl_irr a (by rw [← e] at p2 ⊢; exact p2 _ hm)]
theorem St.below {i : Imm} {L : SH} {w w' : World} (h : St i L w) (hb : Below w.heap.size w w') : St i L w' :=
  ⟨hb.os.trans h.os, hb.tape.trans h.tape, hb.output.trans h.output, fun b o hbo => by
      have := h.imm b o hbo
      rw [hb.block b (Array.getElem?_eq_some_iff.1 this).1]; exact this, h.nodup, fun p hp => by
      have := h.own p hp
      rw [hb.block p.1 (Array.getElem?_eq_some_iff.1 this).1]; exact this, h.sep⟩
/-- a block above all that is known becomes immutable -/
theorem St.addNew {i : Imm} {L : SH} {w w' : World} {b : Nat} {o : Obj} (h0 : St i L w) (h : St i L w') (hb : w.heap.size ≤ b) (ho : w'.heap[b]? = some o) : i.le (i.add b o) ∧ St (i.add b o) L w' := by
  have hn : i.blk b = none := by
    cases hx : i.blk b with
    | none => rfl
    | some o' => have := (Array.getElem?_eq_some_iff.1 (h0.imm b o' hx)).1; omega
  refine ⟨⟨rfl, rfl, rfl, fun c o' hc => ?_⟩, ⟨h.os, h.tape, h.output, fun c o' hc => ?_, h.nodup, h.own, fun p hp => ?_⟩⟩
  · have : c ≠ b := by rintro rfl; rw [hn] at hc; cases hc
    simp [Imm.add, this, hc]
  · simp only [Imm.add] at hc
    split at hc
    · rename_i e; subst e; cases hc; exact ho
    · exact h.imm c o' hc
  · have : p.1 ≠ b := by
      rintro rfl
      have := (Array.getElem?_eq_some_iff.1 (h0.own p hp)).1; omega
    simp [Imm.add, this, h.sep p hp]

theorem Keys_94 (b : Option Nat) (i : Imm) (L : SH) : FnS Try.prog 94 [.map b] i L fun v i' L' => i' = i ∧ ∃ p, v = .func (.func 108) #[] #[.pointer (some ⟨p, 0, none⟩)] ∧ L' = (p, .cells (List.toArray [.map b]) 72 (0, 0)) :: L := by
  refine FnS.intro1 Try.func94 rfl Try.ntmps94 (by simp) Try.results94 ?_
  repeat' (first
    | refine CS.seq ?_
    | refine thenQ.normal ?_
    | refine CS.cond_true rfl ?_
    | refine CS.cond_false rfl ?_
    | refine CS.skip ?_
    | (refine CS.region (id := 0) ?_;
        refine RS.box rfl rfl (fun b => ?_);
        refine RS.pv (PV.all tab_ok rfl) rfl ?_;
        refine RS.nil ?_)
    | refine CS.ret ?_
    | refine thenQ.ret ?_
    | refine blkQ.ret ?_
    | refine retQ.ret ?_
    | refine CS.block ?_
    | refine CS.exit ?_
    | refine thenQ.exit ?_
    | refine blkQ.normal ?_
    | refine blkQ.here ?_
    | refine blkQ.past rfl ?_
    | refine retQ.normal ?_)
  refine CS.region (id := 1) ?_
  refine RS.pv PV.makeFunc rfl ?_
  refine RS.pv (PV.all tab_ok rfl) rfl ?_
  refine RS.nil ?_
  refine thenQ.normal ?_
  refine CS.ret ?_
  refine retQ.ret ?_
  exact ⟨rfl, _, rfl, rfl⟩
theorem sorted_any {H : Type} (p b nn : Nat) (D0 : DataW H) (R : Value → Option (DataW H × List MemPlace)) (W : World) (hp : p < W.heap.size) (hc : W.cell? ⟨p, 0, none⟩ = some (.map (some b))) (hown : W.ownsMap Try.prog 9 R b nn D0) (hmax : Maps.size D0 ≤ maxLen) (hbytes : Maps.size D0 * 16 ≤ 140737488355328) :
    CallsIn Fence.wide 5 Try.prog 93 #[.func (.func 108) #[] #[.pointer (some ⟨p, 0, none⟩)]] W fun e w' => ∃ (v : Value) (ss : List (List UInt8)), e = .returned v ∧ ss.Perm (strKeys D0) ∧
      w'.ownsRow W.heap.size 9 1 v ss.length ((ss.mergeSort (fun x y => decide (x ≤ y))).map encStr) ∧ (v = .slice none 0 0 ↔ ss = []) ∧ Below W.heap.size W w' :=
  AnyZ.sorted_in Try.sorted93 Fence.wide 5 trivial trivial trivial trivial rfl (by omega) (Try.sorts93 _) (enters_of Try.func107 (by kernel_rfl) rfl) 108 #[.pointer (some ⟨p, 0, none⟩)] trivial (enters_of Try.func108 (by kernel_rfl) rfl) _ _ hmax hbytes _
    (AnyZ.keys_gives (ρ := Try.keys94_ren) { Try.keys94 with } Fence.wide _ trivial rfl (by omega) p b nn D0 W hp hc hown)
/-- a set reads as a map -/
def rNil (_ : Value) : Option (DataW Unit × List MemPlace) := some (.nil, [])
theorem owns_set {W : World} {b c : Nat} {ms : List VE} (hb : W.heap[b]? = some (.map (entV ms) c)) (hok : MapOk ms c) (hl : ms.length ≤ maxLen) (hk : ∀ e ∈ ms, e.1.size ≤ maxLen) :
    ∃ D0, W.ownsMap Try.prog 9 rNil b ms.length D0 ∧ Maps.size D0 = ms.length ∧ (strKeys D0).Perm (ms.map fun e => e.1.data.toList) := by
  have hrd : ∀ e ∈ ms, WideElems.rd Try.prog 9 rNil (ent1 e) = some (.string e.1.data.toList, .nil) := fun e he => by
    refine WideElems.rd_mk (P := Try.prog) (k := 9) (R := rNil) (key := .string e.1) (val := e.2.1) (born := e.2.2) (yv := (.nil, [])) ?_ rfl
    have h1 := hk e he
    have h2 : e.1.data.size ≤ maxLen := h1
    simp [keyOf, Try.underlying9, mapKey, h1]
  have hfit : WideElems.Fit Try.prog 9 rNil (entV ms) c := by
    refine ⟨by simpa [entV] using hl, (MapKept.stamped_iff _ _).2 ⟨fun x hx => ?_, ?_, ?_⟩, fun x hx => ?_⟩
    · simp only [entV, List.toList_toArray, List.mem_map] at hx
      obtain ⟨e, he, rfl⟩ := hx
      exact hok.lt e he
    · have : (entV ms).toList.map (·.born) = ms.map fun e => e.2.2 := by simp [entV, ent1, Function.comp_def]
      rw [this]; exact hok.born
    · have h1 := hok.keys
      simp only [entV, List.toList_toArray, List.pairwise_map]
      rw [List.nodup_iff_pairwise_ne, List.pairwise_map] at h1
      exact h1.imp fun {x y} hne e => hne (by simpa [ent1] using e)
    · simp only [entV, List.toList_toArray, List.mem_map] at hx
      obtain ⟨e, he, rfl⟩ := hx
      exact ⟨_, hrd e he⟩
  refine ⟨.map (((entV ms).toList.map (WideElems.rg Try.prog 9 rNil)).foldr DataW.insert []), ⟨_, _, hb, hfit, by simp [entV], rfl⟩, ?_, ?_⟩
  · rw [Maps.size_eq, (Go.WideShapes.sorted_perm _).length_eq]
    simp [entV]
  · have h1 : ((((entV ms).toList.map (WideElems.rg Try.prog 9 rNil)).foldr DataW.insert []).map fun p => strOf p.1).Perm (((entV ms).toList.map (WideElems.rg Try.prog 9 rNil)).map fun p => strOf p.1) := (Go.WideShapes.sorted_perm _).map _
    have h2 : (((entV ms).toList.map (WideElems.rg Try.prog 9 rNil)).map fun p => strOf p.1) = ms.map fun e => e.1.data.toList := by
      simp only [entV, List.toList_toArray, List.map_map]
      refine List.map_congr_left fun e he => ?_
      simp only [Function.comp, WideElems.rg_of (hrd e he), strOf]
    rw [h2] at h1
    exact h1
/-- the sorted keys of a set -/
theorem Sorted_93 (p b c : Nat) (ms : List VE) (i : Imm) (L : SH) (hp : Has i L p (.cells (List.toArray [.map (some b)]) 72 (0, 0))) (hb : Has i L b (.map (entV ms) c)) (hok : MapOk ms c) (hl : ms.length ≤ 100000000000) (hk : ∀ e ∈ ms, e.1.size ≤ maxLen) :
    FnS Try.prog 93 [.func (.func 108) #[] #[.pointer (some ⟨p, 0, none⟩)]] i L fun v i' L' => L' = L ∧ ∃ names : List ByteArray, Sl i' v 1 names.length (strs names) ∧ Asc names ∧ names.length = ms.length ∧ ∀ a, a ∈ names ↔ a ∈ ms.map fun e => e.1 := by
  intro w hw
  have hpb := hp.block hw
  obtain ⟨D0, h1, h2, h3⟩ := owns_set (hb.block hw) hok (by unfold maxLen; omega) hk
  have hcell : w.cell? ⟨p, 0, none⟩ = some (.map (some b)) := by simp [World.cell?, hpb]
  have hc := (callsIn_wide).1 (sorted_any p b ms.length D0 rNil w (Array.getElem?_eq_some_iff.1 hpb).1 hcell h1 (by rw [h2]; unfold maxLen; omega) (by rw [h2]; omega))
  refine Calls.mono hc ?_
  rintro e w' ⟨v, ss, rfl, hperm, hrow, hnil, hbel⟩
  have hs := St.below hw hbel
  have hpm := hperm.trans h3
  obtain ⟨names, hnames⟩ : ∃ names : List ByteArray, names = (ss.mergeSort (fun x y => decide (x ≤ y))).map fun l => ⟨l.toArray⟩ := ⟨_, rfl⟩
  have hlen : names.length = ss.length := by rw [hnames, List.length_map, List.length_mergeSort]
  have hxs : (ss.mergeSort (fun x y => decide (x ≤ y))).map encStr = strs names := by rw [hnames]; simp [strs, Function.comp_def]
  rw [hxs] at hrow
  have hmem : ∀ a, a ∈ names ↔ a ∈ ms.map fun e => e.1 := fun a => by
    have hm1 : a ∈ names ↔ a.data.toList ∈ ss := by
      rw [hnames, List.mem_map]
      constructor
      · rintro ⟨l, hl, rfl⟩
        simpa using List.mem_mergeSort.1 hl
      · intro h
        exact ⟨_, List.mem_mergeSort.2 h, ba_eq rfl⟩
    rw [hm1, hpm.mem_iff, List.mem_map, List.mem_map]
    constructor
    · rintro ⟨e, he, h⟩; exact ⟨e, he, ba_eq h⟩
    · rintro ⟨e, he, rfl⟩; exact ⟨e, he, rfl⟩
  have hasc : Asc names := by
    have tr : ∀ a b c : List UInt8, decide (a ≤ b) = true → decide (b ≤ c) = true → decide (a ≤ c) = true := fun a b c h1 h2 => by simp only [decide_eq_true_eq] at *; exact List.le_trans h1 h2
    have to : ∀ a b : List UInt8, (decide (a ≤ b) || decide (b ≤ a)) = true := fun a b => by simp only [Bool.or_eq_true, decide_eq_true_eq]; exact List.le_total a b
    have hp1 := List.pairwise_mergeSort tr to ss
    have hnd : ss.Nodup := by
      rw [hpm.nodup_iff, List.nodup_iff_pairwise_ne, List.pairwise_map]
      have := hok.keys
      rw [List.nodup_iff_pairwise_ne, List.pairwise_map] at this
      exact this.imp fun {x y} hne e => hne (ba_eq e)
    have hp2 : (ss.mergeSort (fun x y => decide (x ≤ y))).Nodup := (List.mergeSort_perm ss _).nodup_iff.2 hnd
    unfold Asc
    rw [hnames, List.pairwise_map]
    refine (hp1.and (List.nodup_iff_pairwise_ne.1 hp2)).imp fun {x y} ⟨h1, h2⟩ => ?_
    rw [bl_iff]
    simp only [decide_eq_true_eq] at h1
    show x < y
    by_cases hn : x < y
    · exact hn
    · exact absurd (List.le_antisymm h1 (List.not_lt.1 hn)) h2
  have hln : names.length = ms.length := by rw [hlen, hpm.length_eq, List.length_map]
  rw [← hlen] at hrow
  obtain ⟨hxl, ⟨rfl, hn0⟩ | ⟨g, cap, cur, rfl, hg, hcur, hncap, _, _, htake⟩⟩ := hrow
  · refine ⟨_, i, L, rfl, Imm.le.refl i, hs, rfl, names, ?_, hasc, hln, hmem⟩
    have : names = [] := List.length_eq_zero_iff.1 hn0
    subst this
    exact Sl.nil i 1
  · obtain ⟨h5, h6⟩ := St.addNew hw hs hg hcur
    refine ⟨_, _, L, rfl, h5, h6, rfl, names, ?_, hasc, hln, hmem⟩
    refine ⟨_, _, rfl, by simpa using hxl, ?_⟩
    refine .inr ⟨g, 0, cur.toList, 9, (0, 0), rfl, by simp [Imm.add], fun j hj => ?_⟩
    rw [← htake, List.getElem?_take, Nat.zero_add, if_pos]
    rw [hxl] at hj
    exact hj
end Go.Proofs.Ytmcajldlcomegaa
