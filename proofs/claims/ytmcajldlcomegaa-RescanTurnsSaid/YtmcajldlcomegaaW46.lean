/- A record that came in, opened (without the chapter's other walks). No condition. -/
import Derived.Test.YtmcajldlcomegaaW35
import Derived.Test.YtmcajldlcomegaaEnd
import Derived.ChangeSame
import Derived.SliceStrings
import Derived.SizedLaws
import Derived.WideShapes
namespace Go.Proofs.Ytmcajldlcomegaa
open Go Go.Eng

/-- lists that memory bears -/
structure Rec.sane (r : Rec) : Prop where
  props : r.props.length ≤ 10000000000000
  tags : r.tags.length ≤ 10000000000000
  links : r.links.length ≤ 10000000000000
  run : r.run.length ≤ 10000000000000
  load : r.load.length ≤ 10000000000000
theorem Rec.sane.small {r : Rec} (h : r.sane) : r.small := by
  obtain ⟨h1, h2, h3, h4, h5⟩ := h
  exact ⟨by omega, by omega, by omega, by omega, by omega⟩

theorem sl_of {w : World} {a : Addr} {len cap sz : Nat} {xs : List Value} (hl : xs.length = len * sz) (h : ∀ j, j < xs.length → w.cell? (a.add j) = xs[j]?) : Sl (immOf w) (.slice (some a) len cap) sz len xs := by
  refine ⟨some a, cap, rfl, hl, ?_⟩
  by_cases h0 : xs = []
  · exact .inl h0
  · refine .inr ?_
    have hpos : 0 < xs.length := List.length_pos_iff.2 h0
    obtain ⟨b, o, sp⟩ := a
    have g0 := h 0 hpos
    rw [List.getElem?_eq_getElem hpos] at g0
    cases sp with
    | some y => exfalso; revert g0; simp only [World.cell?, Addr.add]; split <;> simp
    | none =>
      rw [Go.Eng.Addr.add_none] at g0
      simp only [World.cell?] at g0
      split at g0
      · rename_i c t fz hb
        refine ⟨b, o, c.toList, t, fz, rfl, by rw [Array.toArray_toList]; exact hb, fun j hj => ?_⟩
        have g := h j hj
        rw [Go.Eng.Addr.add_none] at g
        simp only [World.cell?, hb] at g
        simpa using g
      · cases g0
theorem pick_list {α : Type} {Q : Nat → α → Prop} : ∀ (n : Nat), (∀ i, i < n → ∃ p, Q i p) → ∃ l : List α, l.length = n ∧ ∀ i p, l[i]? = some p → Q i p
  | 0, _ => ⟨[], rfl, fun i p h => by cases h⟩
  | n + 1, h => by
    obtain ⟨l, h1, h2⟩ := pick_list n fun i hi => h i (by omega)
    obtain ⟨p, hp⟩ := h n (by omega)
    refine ⟨l ++ [p], by simp [h1], fun i q hq => ?_⟩
    by_cases hi : i < l.length
    · rw [List.getElem?_append_left hi] at hq; exact h2 i q hq
    · rw [List.getElem?_append_right (by omega)] at hq
      have : i - l.length = 0 := by
        have := (List.getElem?_eq_some_iff.1 hq).1
        simp at this; omega
      rw [this] at hq
      cases hq
      have : i = n := by omega
      subst this; exact hp
theorem list2 {α : Type} {l : List α} (h : l.length = 2) : ∃ a b, l = [a, b] := by
  match l, h with
  | [a, b], _ => exact ⟨a, b, rfl⟩
theorem list12 {α : Type} {l : List α} (h : l.length = 12) : ∃ a0 a1 a2 a3 a4 a5 a6 a7 a8 a9 a10 a11, l = [a0, a1, a2, a3, a4, a5, a6, a7, a8, a9, a10, a11] := by
  match l, h with
  | [a0, a1, a2, a3, a4, a5, a6, a7, a8, a9, a10, a11], _ => exact ⟨_, _, _, _, _, _, _, _, _, _, _, _, rfl⟩
section
variable {H : Type} {enc : TypeId × Value → H} {w : World} {spare : Nat → Bool} {held : Bool} {fuel : Nat} {c : Value} {x : DataW H × List MemPlace}
theorem bytes9 : Try.prog.bytesOf 9 = 16 := by kernel_rfl
theorem bytes103 : Try.prog.bytesOf 103 = 32 := by kernel_rfl
theorem strs_open (h : DataW.trod enc Try.prog w 0 spare held fuel 34 [c] = some x) (hsz : ∀ m ∈ x.1.weights Try.prog 34, m ≤ reachBytes) : ∃ ss : List ByteArray, ss.length ≤ 10000000000000 ∧ Sl (immOf w) c 1 ss.length (strs ss) := by
  rcases Go.ChangeShapes.open_strings Try.underlying34 Try.underlying9 (by kernel_rfl) h with ⟨hcs, _⟩ | ⟨a, len, cap, ss, hcs, _, hl, hm, hlen, hx, hcell, _⟩
  · cases hcs; exact ⟨[], Nat.zero_le _, Sl.nil _ 1⟩
  · cases hcs
    have hle : len ≤ ss.length := by rw [hlen]; split <;> omega
    have htl : (ss.take len).length = len := by rw [List.length_take]; omega
    have hmin : min len ss.length = len := Nat.min_eq_left hle
    refine ⟨ss.take len, ?_, ?_⟩
    · have hw := hsz ((len + (ss.length - len)) * Try.prog.bytesOf 9) (by rw [hx]; simp [DataW.weights, Try.underlying34, Go.ChangeShapes.strs, hmin])
      rw [bytes9] at hw
      simp only [reachBytes] at hw
      omega
    · rw [htl]
      refine sl_of (by simp [strs, hmin]) fun j hj => ?_
      have hj' : j < len := by simpa [strs, hmin] using hj
      rw [hcell j (by omega)]
      simp [strs, List.getElem?_take, hj', List.getD, List.getElem?_eq_getElem (show j < ss.length by omega)]
set_option maxRecDepth 100000 in
theorem attrs_open (h : DataW.trod enc Try.prog w 0 spare held fuel 33 [c] = some x) (hsz : ∀ m ∈ x.1.weights Try.prog 33, m ≤ reachBytes) : ∃ l : List (ByteArray × ByteArray), l.length ≤ 10000000000000 ∧ Sl (immOf w) c 2 l.length (attrs l) := by
  rcases DataW.trod_slice Try.underlying33 h with ⟨hcs, _⟩ | ⟨a, len, cap, elems, rest, n, _, hcs, hx, hb, hl, hm, hlen, hel, _, _⟩
  · cases hcs; exact ⟨[], Nat.zero_le _, Sl.nil _ 2⟩
  · cases hcs
    have hc2 : Try.prog.cellsOf 103 = 2 := by kernel_rfl
    have hc9 : Try.prog.cellsOf 9 = 1 := by kernel_rfl
    rw [hc2] at hel
    have key : ∀ i, i < len → ∃ p : ByteArray × ByteArray, ∀ d, d < 2 → w.cell? (a.add (i * 2 + d)) = [Value.string p.1, .string p.2][d]? := by
      intro i hi
      have h1 := hel i hi
      rw [List.getElem?_eq_getElem (show i < elems.length by omega), Option.bind_eq_some_iff] at h1
      obtain ⟨cs, h2, h3⟩ := h1
      obtain ⟨_, hcl, hcell⟩ := World.cells?_some h2
      obtain ⟨y0, y1, m, _, _, h4, h5⟩ := Go.ChangeShapes.trod_struct2 Try.underlying103 h3
      obtain ⟨c0, c1, rfl⟩ := list2 hcl
      · obtain ⟨s0, e0, _, _⟩ := DataW.trod_string Try.underlying9 h4
        obtain ⟨s1, e1, _, _⟩ := DataW.trod_string Try.underlying9 h5
        simp [hc9] at e0 e1
        subst e0; subst e1
        exact ⟨(s0, s1), fun d hd => by rw [← Addr.add_add]; exact hcell d hd⟩
    obtain ⟨l, h1, h2⟩ := pick_list len key
    refine ⟨l, ?_, ?_⟩
    · have hw := hsz ((len + rest.length) * Try.prog.bytesOf 103) (by rw [hx]; simp [DataW.weights, Try.underlying33, hlen])
      rw [bytes103] at hw
      simp only [reachBytes] at hw
      omega
    · rw [h1]
      refine sl_of (by rw [attrs_len, h1]) fun j hj => ?_
      rw [attrs_len] at hj
      obtain ⟨p, hp⟩ : ∃ p, l[j / 2]? = some p := ⟨_, List.getElem?_eq_getElem (by omega)⟩
      have q1 := h2 _ _ hp (j % 2) (by omega)
      have q2 := attrs_at (k := j / 2) (x := p.1) (y := p.2) hp (j % 2) (by omega)
      rw [show j / 2 * 2 + j % 2 = j by omega] at q1 q2
      rw [q1, q2]
set_option maxRecDepth 100000 in
theorem open_rec {b0 : Nat} {v : Value} {d : DataW H} {ps : List MemPlace} (hv : Value.okWide Try.prog w .any b0 36 v) (hd : DataW.Trod enc Try.prog w 0 spare held 36 v d ps) (hsz : ∀ m ∈ d.weights Try.prog 36, m ≤ reachBytes) :
    ∃ rc r, v = .agg (List.toArray rc) ∧ RecV (immOf w) rc r ∧ r.sane := by
  obtain ⟨cs, rfl, hcs⟩ := Go.WideShapes.okWide_struct Try.underlying36 hv
  obtain ⟨fuel, hf⟩ := hd
  obtain ⟨xs, n, _, hx, hcl, hxl, hfs⟩ := DataW.trod_struct Try.underlying36 hf
  obtain ⟨l, rfl⟩ : ∃ l, cs = List.toArray l := ⟨cs.toList, rfl⟩
  have k9 : Try.prog.cellsOf 9 = 1 := by kernel_rfl
  have k3 : Try.prog.cellsOf 3 = 1 := by kernel_rfl
  have k33 : Try.prog.cellsOf 33 = 1 := by kernel_rfl
  have k34 : Try.prog.cellsOf 34 = 1 := by kernel_rfl
  have k36 : Try.prog.cellsOf 36 = 12 := by kernel_rfl
  simp only [Value.cells] at hcl hfs
  rw [k36] at hcl
  obtain ⟨hd1, hd2⟩ := Prod.mk.inj hx
  subst hd1
  obtain ⟨c0, c1, c2, c3, c4, c5, c6, c7, c8, c9, c10, c11, rfl⟩ := list12 hcl
  obtain ⟨x0, x1, x2, x3, x4, x5, x6, x7, x8, x9, x10, x11, rfl⟩ := list12 (l := xs) hxl
  · skip
    have f0 := hfs 0 _ rfl
    have f1 := hfs 1 _ rfl
    have f2 := hfs 2 _ rfl
    have f3 := hfs 3 _ rfl
    have f4 := hfs 4 _ rfl
    have f5 := hfs 5 _ rfl
    have f6 := hfs 6 _ rfl
    have f7 := hfs 7 _ rfl
    have f8 := hfs 8 _ rfl
    have f9 := hfs 9 _ rfl
    have f10 := hfs 10 _ rfl
    have f11 := hfs 11 _ rfl
    simp [k9, k3, k33, k34] at f0 f1 f2 f3 f4 f5 f6 f7 f8 f9 f10 f11
    obtain ⟨s0, e0, _, _⟩ := DataW.trod_string Try.underlying9 f0
    obtain ⟨n1, e1, _, _⟩ := DataW.trod_int Try.underlying3 f1
    obtain ⟨s7, e7, _, _⟩ := DataW.trod_string Try.underlying9 f7
    obtain ⟨n8, e8, _, _⟩ := DataW.trod_int Try.underlying3 f8
    obtain ⟨s9, e9, _, _⟩ := DataW.trod_string Try.underlying9 f9
    obtain ⟨s10, e10, _, _⟩ := DataW.trod_string Try.underlying9 f10
    obtain ⟨n11, e11, _, _⟩ := DataW.trod_int Try.underlying3 f11
    simp at e0 e1 e7 e8 e9 e10 e11
    subst e0 e1 e7 e8 e9 e10 e11
    have hw : ∀ m, (m ∈ x2.1.weights Try.prog 33 ∨ m ∈ x3.1.weights Try.prog 34 ∨ m ∈ x4.1.weights Try.prog 34 ∨ m ∈ x5.1.weights Try.prog 34 ∨ m ∈ x6.1.weights Try.prog 34) → m ≤ reachBytes := fun m hm => hsz m (by
      simp only [DataW.weights, Try.underlying36, List.map_cons, List.map_nil, DataW.weightsEach, List.mem_append, List.mem_nil_iff]
      rcases hm with h | h | h | h | h <;> simp [h])
    obtain ⟨g2, b2, h2⟩ := attrs_open f2 fun m hm => hw m (.inl hm)
    obtain ⟨g3, b3, h3⟩ := strs_open f3 fun m hm => hw m (.inr (.inl hm))
    obtain ⟨g4, b4, h4⟩ := strs_open f4 fun m hm => hw m (.inr (.inr (.inl hm)))
    obtain ⟨g5, b5, h5⟩ := strs_open f5 fun m hm => hw m (.inr (.inr (.inr (.inl hm))))
    obtain ⟨g6, b6, h6⟩ := strs_open f6 fun m hm => hw m (.inr (.inr (.inr (.inr hm))))
    exact ⟨_, ⟨s0, n1, g2, g3, g4, g5, g6, s7, n8, s9, s10, n11⟩, rfl, ⟨_, _, _, _, _, rfl, h2, h3, h4, h5, h6⟩, ⟨b2, b3, b4, b5, b6⟩⟩
end
end Go.Proofs.Ytmcajldlcomegaa
