/- RescanCompares, part 16: a world that came in, opened. -/
import Derived.Test.YtmcajldlcomegaaW60
namespace Go.Proofs.Ytmcajldlcomegaa
open Go Go.Eng
section
variable {H : Type} {enc : TypeId × Value → H} {w : World} {spare : Nat → Bool} {held : Bool} {fuel : Nat} {c : Value} {x : DataW H × List MemPlace}
theorem weightsAll_mem {P : Program} {e m : Nat} {d : DataW H} : ∀ {l : List (DataW H)}, d ∈ l → m ∈ d.weights P e → m ∈ DataW.weightsAll P e l
  | [], h, _ => by cases h
  | a :: l, h, hm => by
    simp only [DataW.weightsAll, List.mem_append]
    rcases List.mem_cons.1 h with rfl | h
    · exact .inl hm
    · exact .inr (weightsAll_mem h hm)
/-- a slice of structs, element by element -/
theorem rows_open {E : Type} {st et sz bytes : Nat} (cl : E → List Value) (Q : E → Prop) (hst : Try.prog.underlying st = some (.slice et)) (hsz : Try.prog.cellsOf et = sz) (hby : Try.prog.bytesOf et = bytes) (hb16 : 16 ≤ bytes)
    (hel : ∀ (fuel : Nat) (cs : List Value) (y : DataW H × List MemPlace), DataW.trod enc Try.prog w 0 spare held fuel et cs = some y → (∀ m ∈ y.1.weights Try.prog et, m ≤ reachBytes) → ∃ e, cl e = cs ∧ cs.length = sz ∧ Q e)
    (h : DataW.trod enc Try.prog w 0 spare held fuel st [c] = some x) (hw : ∀ m ∈ x.1.weights Try.prog st, m ≤ reachBytes) : ∃ l : List E, l.length ≤ 10000000000000 ∧ Sl (immOf w) c sz l.length (rowC cl l) ∧ ∀ e ∈ l, Q e := by
  rcases DataW.trod_slice hst h with ⟨hcs, _⟩ | ⟨a, len, cap, elems, rest, n, _, hcs, hx, hb, hl, hm, hlen, hel2, _, _⟩
  · cases hcs; exact ⟨[], Nat.zero_le _, Sl.nil _ sz, nofun⟩
  · cases hcs
    rw [hsz] at hel2
    have key : ∀ i, i < len → ∃ e : E, (∀ d, d < sz → w.cell? (a.add (i * sz + d)) = (cl e)[d]?) ∧ (cl e).length = sz ∧ Q e := by
      intro i hi
      have h1 := hel2 i hi
      rw [List.getElem?_eq_getElem (show i < elems.length by omega), Option.bind_eq_some_iff] at h1
      obtain ⟨cs, h2, h3⟩ := h1
      obtain ⟨_, hcl, hcell⟩ := World.cells?_some h2
      obtain ⟨e, e1, e2, e3⟩ := hel n cs _ h3 fun m hm => hw m (by
        rw [hx]
        simp only [DataW.weights, hst, List.mem_cons, List.mem_append]
        exact .inr (.inl (weightsAll_mem (List.mem_map.2 ⟨_, List.getElem_mem (show i < elems.length by omega), rfl⟩) hm)))
      exact ⟨e, fun d hd => by rw [← Addr.add_add, e1]; exact hcell d hd, by rw [e1]; exact e2, e3⟩
    obtain ⟨l, h1, h2⟩ := pick_list len key
    have hlen' : ∀ e ∈ l, (cl e).length = sz := fun e he => by
      obtain ⟨i, hi⟩ := List.getElem?_of_mem he
      exact (h2 i e hi).2.1
    refine ⟨l, ?_, ?_, fun e he => by obtain ⟨i, hi⟩ := List.getElem?_of_mem he; exact (h2 i e hi).2.2⟩
    · have hw := hw ((len + rest.length) * Try.prog.bytesOf et) (by rw [hx]; simp [DataW.weights, hst, hlen])
      rw [hby] at hw
      simp only [reachBytes] at hw
      have : len * 16 ≤ (len + rest.length) * bytes := Nat.mul_le_mul (by omega) hb16
      omega
    · rw [h1]
      refine sl_of (by rw [rowC_len hlen', h1]) fun j hj => ?_
      rw [rowC_len hlen', h1] at hj
      by_cases hs0 : sz = 0
      · rw [hs0] at hj; omega
      have hdm : j / sz < len := Nat.div_lt_of_lt_mul (by rw [Nat.mul_comm]; exact hj)
      obtain ⟨p, hp⟩ : ∃ p, l[j / sz]? = some p := ⟨_, List.getElem?_eq_getElem (by omega)⟩
      have hmod : j % sz < sz := Nat.mod_lt _ (by omega)
      have q1 := (h2 _ _ hp).1 (j % sz) hmod
      have q2 := rowC_at hlen' hp (j % sz) hmod
      rw [Nat.mul_comm, Nat.div_add_mod] at q1 q2
      rw [q1, q2]
theorem trod_text {cs : List Value} {y : DataW H × List MemPlace} (h : DataW.trod enc Try.prog w 0 spare held fuel 9 cs = some y) : ∃ s : ByteArray, cs = [.string s] ∧ s.size ≤ maxLen := by
  obtain ⟨s, e, _, h2⟩ := DataW.trod_string Try.underlying9 h
  exact ⟨s, e, h2⟩
theorem trod_num {cs : List Value} {y : DataW H × List MemPlace} (h : DataW.trod enc Try.prog w 0 spare held fuel 3 cs = some y) : ∃ n, cs = [.int .i64 n] := by
  obtain ⟨n, e, _, _⟩ := DataW.trod_int Try.underlying3 h
  exact ⟨n, e⟩
theorem k9 : Try.prog.cellsOf 9 = 1 := by kernel_rfl
theorem k3 : Try.prog.cellsOf 3 = 1 := by kernel_rfl
theorem k33 : Try.prog.cellsOf 33 = 1 := by kernel_rfl
theorem k34 : Try.prog.cellsOf 34 = 1 := by kernel_rfl
theorem list7 {α : Type} {l : List α} (h : l.length = 7) : ∃ a0 a1 a2 a3 a4 a5 a6, l = [a0, a1, a2, a3, a4, a5, a6] := by
  match l, h with
  | [a0, a1, a2, a3, a4, a5, a6], _ => exact ⟨_, _, _, _, _, _, _, rfl⟩
theorem list5 {α : Type} {l : List α} (h : l.length = 5) : ∃ a0 a1 a2 a3 a4, l = [a0, a1, a2, a3, a4] := by
  match l, h with
  | [a0, a1, a2, a3, a4], _ => exact ⟨_, _, _, _, _, rfl⟩
theorem list3 {α : Type} {l : List α} (h : l.length = 3) : ∃ a0 a1 a2, l = [a0, a1, a2] := by
  match l, h with
  | [a0, a1, a2], _ => exact ⟨_, _, _, rfl⟩
theorem node_open {cs : List Value} {y : DataW H × List MemPlace} (h : DataW.trod enc Try.prog w 0 spare held fuel 109 cs = some y) : cs.length = 7 ∧ shp kNode cs ∧ (nm0 cs).size ≤ maxLen := by
  obtain ⟨xs, n, _, hx, hcl, hxl, hfs⟩ := DataW.trod_struct Try.underlying109 h
  rw [show Try.prog.cellsOf 109 = 7 by kernel_rfl] at hcl
  obtain ⟨c0, c1, c2, c3, c4, c5, c6, rfl⟩ := list7 hcl
  obtain ⟨x0, x1, x2, x3, x4, x5, x6, rfl⟩ := list7 (l := xs) hxl
  have f0 := hfs 0 _ rfl
  have f1 := hfs 1 _ rfl
  have f2 := hfs 2 _ rfl
  have f3 := hfs 3 _ rfl
  have f4 := hfs 4 _ rfl
  have f5 := hfs 5 _ rfl
  have f6 := hfs 6 _ rfl
  simp [k9, k3] at f0 f1 f2 f3 f4 f5 f6
  obtain ⟨s0, e0, h0⟩ := trod_text f0
  obtain ⟨s1, e1⟩ := trod_num f1
  obtain ⟨s2, e2⟩ := trod_num f2
  obtain ⟨s3, e3, _⟩ := trod_text f3
  obtain ⟨s4, e4, _⟩ := trod_text f4
  obtain ⟨s5, e5⟩ := trod_num f5
  obtain ⟨s6, e6, _⟩ := trod_text f6
  cases e0; cases e1; cases e2; cases e3; cases e4; cases e5; cases e6
  exact ⟨rfl, ⟨⟨_, rfl⟩, ⟨_, rfl⟩, ⟨_, rfl⟩, ⟨_, rfl⟩, ⟨_, rfl⟩, ⟨_, rfl⟩, ⟨_, rfl⟩, trivial⟩, h0⟩
theorem link_open {cs : List Value} {y : DataW H × List MemPlace} (h : DataW.trod enc Try.prog w 0 spare held fuel 124 cs = some y) : cs.length = 3 ∧ shp kLink cs ∧ (nm0 cs).size ≤ maxLen := by
  obtain ⟨xs, n, _, hx, hcl, hxl, hfs⟩ := DataW.trod_struct Try.underlying124 h
  rw [show Try.prog.cellsOf 124 = 3 by kernel_rfl] at hcl
  obtain ⟨c0, c1, c2, rfl⟩ := list3 hcl
  obtain ⟨x0, x1, x2, rfl⟩ := list3 (l := xs) hxl
  have f0 := hfs 0 _ rfl
  have f1 := hfs 1 _ rfl
  have f2 := hfs 2 _ rfl
  simp [k9] at f0 f1 f2
  obtain ⟨s0, e0, h0⟩ := trod_text f0
  obtain ⟨s1, e1, _⟩ := trod_text f1
  obtain ⟨s2, e2, _⟩ := trod_text f2
  cases e0; cases e1; cases e2
  exact ⟨rfl, ⟨⟨_, rfl⟩, ⟨_, rfl⟩, ⟨_, rfl⟩, trivial⟩, h0⟩
theorem attr_open {cs : List Value} {y : DataW H × List MemPlace} (h : DataW.trod enc Try.prog w 0 spare held fuel 103 cs = some y) : cs.length = 2 ∧ shp kAttr cs ∧ (nm0 cs).size ≤ maxLen := by
  obtain ⟨xs, n, _, hx, hcl, hxl, hfs⟩ := DataW.trod_struct Try.underlying103 h
  rw [show Try.prog.cellsOf 103 = 2 by kernel_rfl] at hcl
  obtain ⟨c0, c1, rfl⟩ := list2 hcl
  obtain ⟨x0, x1, rfl⟩ := list2 (l := xs) hxl
  have f0 := hfs 0 _ rfl
  have f1 := hfs 1 _ rfl
  simp [k9] at f0 f1
  obtain ⟨s0, e0, h0⟩ := trod_text f0
  obtain ⟨s1, e1, _⟩ := trod_text f1
  cases e0; cases e1
  exact ⟨rfl, ⟨⟨_, rfl⟩, ⟨_, rfl⟩, trivial⟩, h0⟩
set_option maxRecDepth 100000 in
theorem rec_open {cs : List Value} {y : DataW H × List MemPlace} (h : DataW.trod enc Try.prog w 0 spare held fuel 36 cs = some y) (hsz : ∀ m ∈ y.1.weights Try.prog 36, m ≤ reachBytes) : ∃ e : List Value × Rec, e.1 = cs ∧ cs.length = 12 ∧ RecV (immOf w) e.1 e.2 ∧ e.2.small ∧ e.2.path.size ≤ maxLen := by
  obtain ⟨xs, n, _, hx, hcl, hxl, hfs⟩ := DataW.trod_struct Try.underlying36 h
  rw [show Try.prog.cellsOf 36 = 12 by kernel_rfl] at hcl
  subst hx
  obtain ⟨c0, c1, c2, c3, c4, c5, c6, c7, c8, c9, c10, c11, rfl⟩ := list12 hcl
  obtain ⟨x0, x1, x2, x3, x4, x5, x6, x7, x8, x9, x10, x11, rfl⟩ := list12 (l := xs) hxl
  · have f0 := hfs 0 _ rfl
    have f1 := hfs 1 _ rfl
    have f2 := hfs 2 _ rfl
    have f3 := hfs 3 _ rfl
    have f4 := hfs 4 _ rfl
    have f5 := hfs 5 _ rfl
    have f6 := hfs 6 _ rfl
    have f7 := hfs 7 _ rfl
    have f8 := hfs 8 _ rfl
    have f9 := hfs 9 _ rfl
    have f10 := hfs 10 _ rfl
    have f11 := hfs 11 _ rfl
    simp [k9, k3, k33, k34] at f0 f1 f2 f3 f4 f5 f6 f7 f8 f9 f10 f11
    obtain ⟨s0, e0, h0⟩ := trod_text f0
    obtain ⟨n1, e1⟩ := trod_num f1
    obtain ⟨s7, e7, _⟩ := trod_text f7
    obtain ⟨n8, e8⟩ := trod_num f8
    obtain ⟨s9, e9, _⟩ := trod_text f9
    obtain ⟨s10, e10, _⟩ := trod_text f10
    obtain ⟨n11, e11⟩ := trod_num f11
    cases e0; cases e1; cases e7; cases e8; cases e9; cases e10; cases e11
    have hw : ∀ m, (m ∈ x2.1.weights Try.prog 33 ∨ m ∈ x3.1.weights Try.prog 34 ∨ m ∈ x4.1.weights Try.prog 34 ∨ m ∈ x5.1.weights Try.prog 34 ∨ m ∈ x6.1.weights Try.prog 34) → m ≤ reachBytes := fun m hm => hsz m (by
      simp only [DataW.weights, Try.underlying36, List.map_cons, List.map_nil, DataW.weightsEach, List.mem_append, List.mem_nil_iff]
      rcases hm with h | h | h | h | h <;> simp [h])
    obtain ⟨g2, b2, h2⟩ := attrs_open f2 fun m hm => hw m (.inl hm)
    obtain ⟨g3, b3, h3⟩ := strs_open f3 fun m hm => hw m (.inr (.inl hm))
    obtain ⟨g4, b4, h4⟩ := strs_open f4 fun m hm => hw m (.inr (.inr (.inl hm)))
    obtain ⟨g5, b5, h5⟩ := strs_open f5 fun m hm => hw m (.inr (.inr (.inr (.inl hm))))
    obtain ⟨g6, b6, h6⟩ := strs_open f6 fun m hm => hw m (.inr (.inr (.inr (.inr hm))))
    refine ⟨(_, ⟨s0, n1, g2, g3, g4, g5, g6, s7, n8, s9, s10, n11⟩), rfl, rfl, ⟨_, _, _, _, _, rfl, h2, h3, h4, h5, h6⟩, ⟨?_, ?_, ?_, ?_, ?_⟩, h0⟩
    all_goals (simp only; omega)
theorem rowC_strs : ∀ l : List ByteArray, rowC (fun s : ByteArray => [Value.string s]) l = strs l
  | [] => rfl
  | s :: l => by
    have h := rowC_strs l
    have : rowC (fun s : ByteArray => [Value.string s]) (s :: l) = .string s :: rowC (fun s : ByteArray => [Value.string s]) l := rfl
    rw [this, h]; rfl
set_option maxRecDepth 100000 in
theorem open_world {b0 : Nat} {v : Value} {d : DataW H} {ps : List MemPlace} (hv : Value.okWide Try.prog w .any b0 77 v) (hd : DataW.Trod enc Try.prog w 0 spare held 77 v d ps) (hsz : ∀ m ∈ d.weights Try.prog 77, m ≤ reachBytes) :
    ∃ wc W, v = .agg (List.toArray wc) ∧ WorldV (immOf w) wc W ∧ W.ok ∧ W.recs.length ≤ 10000000000000 ∧ W.mods.length ≤ 10000000000000 := by
  obtain ⟨cs, rfl, hcs⟩ := Go.WideShapes.okWide_struct Try.underlying77 hv
  obtain ⟨fuel, hf⟩ := hd
  obtain ⟨xs, n, _, hx, hcl, hxl, hfs⟩ := DataW.trod_struct Try.underlying77 hf
  obtain ⟨l, rfl⟩ : ∃ l, cs = List.toArray l := ⟨cs.toList, rfl⟩
  simp only [Value.cells] at hcl hfs
  rw [show Try.prog.cellsOf 77 = 5 by kernel_rfl] at hcl
  obtain ⟨hd1, hd2⟩ := Prod.mk.inj hx
  subst hd1
  obtain ⟨c0, c1, c2, c3, c4, rfl⟩ := list5 hcl
  obtain ⟨x0, x1, x2, x3, x4, rfl⟩ := list5 (l := xs) hxl
  have f0 := hfs 0 _ rfl
  have f1 := hfs 1 _ rfl
  have f2 := hfs 2 _ rfl
  have f3 := hfs 3 _ rfl
  have f4 := hfs 4 _ rfl
  have k73 : Try.prog.cellsOf 73 = 1 := by kernel_rfl
  have k74 : Try.prog.cellsOf 74 = 1 := by kernel_rfl
  have k75 : Try.prog.cellsOf 75 = 1 := by kernel_rfl
  simp [k33, k34, k73, k74, k75] at f0 f1 f2 f3 f4
  have hw : ∀ m, (m ∈ x0.1.weights Try.prog 73 ∨ m ∈ x1.1.weights Try.prog 74 ∨ m ∈ x2.1.weights Try.prog 75 ∨ m ∈ x3.1.weights Try.prog 33 ∨ m ∈ x4.1.weights Try.prog 34) → m ≤ reachBytes := fun m hm => hsz m (by
    simp only [DataW.weights, Try.underlying77, List.map_cons, List.map_nil, DataW.weightsEach, List.mem_append, List.mem_nil_iff]
    rcases hm with h | h | h | h | h <;> simp [h])
  obtain ⟨g0, b0, h0, q0⟩ := rows_open (sz := 12) (bytes := 208) Prod.fst (fun e : List Value × Rec => RecV (immOf w) e.1 e.2 ∧ e.2.small ∧ e.2.path.size ≤ maxLen) Try.underlying73 (by kernel_rfl) (by kernel_rfl) (by omega) (fun _ _ _ h hw => rec_open h hw) f0 fun m hm => hw m (.inl hm)
  obtain ⟨g1, b1, h1, q1⟩ := rows_open (sz := 7) (bytes := 88) id (fun e : List Value => shp kNode e ∧ (nm0 e).size ≤ maxLen) Try.underlying74 (by kernel_rfl) (by kernel_rfl) (by omega) (fun _ cs _ h _ => ⟨cs, rfl, node_open h⟩) f1 fun m hm => hw m (.inr (.inl hm))
  obtain ⟨g2, b2, h2, q2⟩ := rows_open (sz := 3) (bytes := 48) id (fun e : List Value => shp kLink e ∧ (nm0 e).size ≤ maxLen) Try.underlying75 (by kernel_rfl) (by kernel_rfl) (by omega) (fun _ cs _ h _ => ⟨cs, rfl, link_open h⟩) f2 fun m hm => hw m (.inr (.inr (.inl hm)))
  obtain ⟨g3, b3, h3, q3⟩ := rows_open (sz := 2) (bytes := 32) id (fun e : List Value => shp kAttr e ∧ (nm0 e).size ≤ maxLen) Try.underlying33 (by kernel_rfl) (by kernel_rfl) (by omega) (fun _ cs _ h _ => ⟨cs, rfl, attr_open h⟩) f3 fun m hm => hw m (.inr (.inr (.inr (.inl hm))))
  obtain ⟨g4, b4, h4, q4⟩ := rows_open (sz := 1) (bytes := 16) (fun s : ByteArray => [Value.string s]) (fun s : ByteArray => s.size ≤ maxLen) Try.underlying34 (by kernel_rfl) (by kernel_rfl) (by omega) (fun _ cs _ h _ => by obtain ⟨s, e, hs⟩ := trod_text h; exact ⟨s, e.symm, by rw [e]; rfl, hs⟩) f4 fun m hm => hw m (.inr (.inr (.inr (.inr hm))))
  rw [rowC_strs] at h4
  exact ⟨_, ⟨g0, g1, g2, g3, g4⟩, rfl, ⟨_, _, _, _, _, rfl, h0, h1, h2, h3, h4, fun p hp => (q0 p hp).1⟩, ⟨fun p hp => (q0 p hp).2, q1, q2, q3, q4⟩, b0, b4⟩
end
end Go.Proofs.Ytmcajldlcomegaa
