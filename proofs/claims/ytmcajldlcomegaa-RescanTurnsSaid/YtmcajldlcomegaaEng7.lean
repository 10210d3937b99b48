/- The proof engine, part 7: slices that are built, append. No condition. -/
import Derived.Test.YtmcajldlcomegaaEng6
namespace Go.Eng
open Go

/-- a slice whose cells can be read: 'n' elements of 'sz' cells -/
def Rd (i : Imm) (L : SH) (v : Value) (sz n : Nat) (xs : List Value) : Prop :=
  ∃ ao cap, v = .slice ao n cap ∧ xs.length = n * sz ∧ (xs = [] ∨ ∃ b o cs t fz, ao = some ⟨b, o, none⟩ ∧ Has i L b (.cells (List.toArray cs) t fz) ∧ ∀ j, j < xs.length → cs[o + j]? = xs[j]?)
/-- a slice whose cells are immutable -/
def Sl (i : Imm) (v : Value) (sz n : Nat) (xs : List Value) : Prop :=
  ∃ ao cap, v = .slice ao n cap ∧ xs.length = n * sz ∧ (xs = [] ∨ ∃ b o cs t fz, ao = some ⟨b, o, none⟩ ∧ i.blk b = some (.cells (List.toArray cs) t fz) ∧ ∀ j, j < xs.length → cs[o + j]? = xs[j]?)
theorem Sl.le {i i' : Imm} {v : Value} {sz n : Nat} {xs : List Value} (h : Sl i v sz n xs) (hi : i.le i') : Sl i' v sz n xs := by
  obtain ⟨ao, cap, h1, h2, h3⟩ := h
  refine ⟨ao, cap, h1, h2, h3.imp id ?_⟩
  rintro ⟨b, o, cs, t, fz, h4, h5, h6⟩
  exact ⟨b, o, cs, t, fz, h4, hi.blk _ _ h5, h6⟩
theorem Sl.rd {i : Imm} {v : Value} {sz n : Nat} {xs : List Value} (h : Sl i v sz n xs) (L : SH) : Rd i L v sz n xs := by
  obtain ⟨ao, cap, h1, h2, h3⟩ := h
  refine ⟨ao, cap, h1, h2, h3.imp id ?_⟩
  rintro ⟨b, o, cs, t, fz, h4, h5, h6⟩
  exact ⟨b, o, cs, t, fz, h4, Has.imm h5, h6⟩
theorem Sl.nil (i : Imm) (sz : Nat) : Sl i (.slice none 0 0) sz 0 [] := ⟨none, 0, rfl, by simp, .inl rfl⟩
/-- a slice that is built: 'O' the block it owns -/
def SlO (e : TypeId) (v : Value) (sz n : Nat) (xs : List Value) (O : SH) : Prop :=
  xs.length = n * sz ∧ ((v = .slice none 0 0 ∧ n = 0 ∧ O = []) ∨
    ∃ g cap sp, v = .slice (some ⟨g, 0, none⟩) n cap ∧ n ≤ cap ∧ (xs ++ sp).length = cap * sz ∧ O = [(g, .cells (xs ++ sp).toArray e (0, 0))])
theorem SlO.nil (e : TypeId) (sz : Nat) : SlO e (.slice none 0 0) sz 0 [] [] := ⟨by simp, .inl ⟨rfl, rfl, rfl⟩⟩
theorem SlO.rd {e : TypeId} {v : Value} {sz n : Nat} {xs : List Value} {O L : SH} {i : Imm} (h : SlO e v sz n xs O) : Rd i (O ++ L) v sz n xs := by
  obtain ⟨h1, ⟨rfl, rfl, rfl⟩ | ⟨g, cap, sp, rfl, h2, h3, rfl⟩⟩ := h
  · exact ⟨none, 0, rfl, h1, .inl (List.eq_nil_of_length_eq_zero (by simpa using h1))⟩
  · refine ⟨some ⟨g, 0, none⟩, cap, rfl, h1, .inr ⟨g, 0, xs ++ sp, e, (0, 0), rfl, .inr (by simp), fun j hj => ?_⟩⟩
    rw [Nat.zero_add, List.getElem?_append_left hj]
/-- what was built is let be -/
theorem SlO.freeze {e : TypeId} {v : Value} {sz n : Nat} {xs : List Value} {O L : SH} {i : Imm} {w : World} (h : SlO e v sz n xs O) (hs : St i (O ++ L) w) : ∃ i', i.le i' ∧ St i' L w ∧ Sl i' v sz n xs := by
  obtain ⟨h1, ⟨rfl, rfl, rfl⟩ | ⟨g, cap, sp, rfl, h2, h3, rfl⟩⟩ := h
  · refine ⟨i, Imm.le.refl i, hs, none, 0, rfl, h1, .inl (List.eq_nil_of_length_eq_zero (by simpa using h1))⟩
  · refine ⟨i.add g _, (St.freeze hs).1, (St.freeze hs).2, some ⟨g, 0, none⟩, cap, rfl, h1, .inr ⟨g, 0, xs ++ sp, e, (0, 0), rfl, by simp [Imm.add], fun j hj => ?_⟩⟩
    rw [Nat.zero_add, List.getElem?_append_left hj]

section
variable {P : Program} {n : Nat} {f : Fr} {i : Imm} {L : SH} {dst : Option Nat} {ty : TypeId} {pos : String} {aft : Array Edge} {gd : Option (Nat × Bool)} {v : Value} {T : Tab} {K : Value → Imm → SH → Prop}

theorem run_append_zero (w : World) {t ty' e : TypeId} {ti : TypeInfo} (ht : P.underlying t = some (.slice e)) (hi : P.info? e = some ti) (base : Option Addr) (k cap : Nat) (hk : k ≤ cap) (x : Option Addr) (c : Nat) :
    (Builtin.append_ #[t, t] ty' #[.slice base k cap, .slice x 0 c]).run P w = .ok (.slice base k cap) w := by
  cases x <;> cases base <;> simp [Builtin.append_, run_underlying ht, sizeOf, run_info hi, Builtin.lenOf, hk, Builtin.firstCells, loadCells, loadCellsFrom, storeCells]

theorem OpS.append (hT : T.ok P) {t e sz bytes : Nat} {x y : Operand} {u : Value} {k m : Nat} {xs news : List Value} {O L0 : SH} (hx : ev n f x = v) (hy : ev n f y = u) (hte : ∃ d, tget T t = some d ∧ d.desc = .slice e) (hee : ∃ d, tget T e = some d ∧ d.size = sz ∧ d.bytes = bytes) (hsz : 0 < sz)
    (hv : SlO e v sz k xs O) (hL : L = O ++ L0) (hu : Rd i L u sz m news) (hone : ∀ c ∈ news, c.oneCell' = true) (hmax : (k + m) * bytes ≤ 140737488355328) (hmax2 : k + m ≤ 9223372036854775807)
    (h : ∀ v' O', SlO e v' sz (k + m) (xs ++ news) O' → (v' = .slice none 0 0 → v = .slice none 0 0 ∧ m = 0) → K v' i (O' ++ L0)) : OpS P n ⟨dst, .call ⟨.builtin .append, #[x, y], #[t, t]⟩, ty, pos, aft, gd⟩ f i L K := by
  subst hL
  obtain ⟨d1, ht, hd⟩ := hte
  obtain ⟨d2, he, hes, heb⟩ := hee
  have hu1 := (tget_ok hT ht).und
  rw [hd] at hu1
  obtain ⟨_, hzl, ti, z, hi, hs, hb, hz, hzc⟩ := tget_ok hT he
  have hzs : z.cells.size = sz := by rw [hzc, List.size_toArray, hzl, hes]
  rw [hes] at hs
  rw [heb] at hb
  obtain ⟨uo, uc, rfl, hul, hur⟩ := hu
  have hlen : (xs ++ news).length = (k + m) * sz := by rw [List.length_append, hv.1, hul, Nat.add_mul]
  refine OpS.valueW fun w hw => ?_
  have hex : ∀ r w', (Builtin.append_ #[t, t] ty #[v, .slice uo m uc]).run P w = .ok r w' → (execOp (ev n f) ⟨dst, .call ⟨.builtin .append, #[x, y], #[t, t]⟩, ty, pos, aft, gd⟩).run P w = .ok (.value r) w' := by
    intro r w' hr
    simp [execOp, resolve, hx, hy, invoke, builtin, hr]
  by_cases hm : m = 0
  · subst hm
    have hn : news = [] := List.eq_nil_of_length_eq_zero (by simpa using hul)
    subst hn
    refine ⟨v, w, i, O ++ L0, hex _ _ ?_, Imm.le.refl i, hw, h v O (by simpa using hv) (fun hv => ⟨hv, rfl⟩)⟩
    obtain ⟨_, ⟨rfl, rfl, rfl⟩ | ⟨g, cap, sp, rfl, h2, _, rfl⟩⟩ := hv
    · exact run_append_zero w hu1 hi none 0 0 (Nat.le_refl _) uo uc
    · exact run_append_zero w hu1 hi _ k cap h2 uo uc
  · have hne : news ≠ [] := by
      intro h0
      rw [h0] at hul
      have : 0 < m * sz := Nat.mul_pos (by omega) hsz
      simp at hul; omega
    obtain ⟨b, o, cs, tt, fz, rfl, hbl, hcell⟩ := hur.resolve_left hne
    have hnews : ∀ j c, news[j]? = some c → w.cell? ((⟨b, o, none⟩ : Addr).add j) = some c := by
      intro j c hj
      rw [Addr.add_none, cell_at (hbl.block hw), hcell j (List.getElem?_eq_some_iff.1 hj).1, hj]
    obtain ⟨hv1, ⟨rfl, rfl, rfl⟩ | ⟨g, cap, sp, rfl, h2, h3, rfl⟩⟩ := hv
    · -- from nil
      have hxs : xs = [] := List.eq_nil_of_length_eq_zero (by simpa using hv1)
      subst hxs
      rw [Nat.zero_add] at hmax
      have hr := run_append_nil (P := P) (ty := ty) w t e ti z hu1 hi hz ⟨b, o, none⟩ m uc news (by rw [hs]; exact hul) hnews (by omega) (by omega) (by rw [hb]; omega)
      refine ⟨_, _, i, _, hex _ _ hr, Imm.le.refl i, St.push (w := w.drew) hw.drew rfl rfl rfl rfl, ?_⟩
      have hge := grownCap_ge w m 0 e
      refine h _ [(w.heap.size, _)] ⟨by simpa using hlen, .inr ⟨w.heap.size, grownCap w m 0 e, (Builtin.zeroCells z.cells (grownCap w m 0 e - m)).toList, by simp, by omega, ?_, ?_⟩⟩ (fun h0 => by cases h0)
      · simp only [List.nil_append, List.length_append, Array.length_toList, size_zeroCells]
        rw [hul, hzs, ← Nat.add_mul]; congr 1; omega
      · simp
    · by_cases hroom : k + m ≤ cap
      · -- there is room
        have hg : w.heap[g]? = some (.cells (xs ++ sp).toArray e (0, 0)) := hw.own (g, _) (by simp)
        have hr := run_append_room (P := P) (ty := ty) w t e ti hu1 hi g k cap (xs ++ sp).toArray hg ⟨b, o, none⟩ m uc news (by rw [hs]; exact hul) hnews hone hroom (by
          rw [hs, List.size_toArray, h3, hul, ← Nat.add_mul]; exact Nat.mul_le_mul_right _ hroom)
        refine ⟨_, _, i, _, hex _ _ hr, Imm.le.refl i, hw.put (k := 0) (b := g) (o := .cells (xs ++ sp).toArray e (0, 0)) rfl rfl rfl rfl (heap_setRow w g _ _ _ _ hg), ?_⟩
        rw [hs, ← hv1]
        simp only [List.cons_append, List.nil_append, List.set_cons_zero]
        refine h _ [(g, _)] ⟨hlen, .inr ⟨g, cap, sp.drop news.length, rfl, hroom, ?_, ?_⟩⟩ (fun h0 => by cases h0)
        · rw [List.length_append, List.length_append, List.length_drop]
          rw [List.length_append] at h3
          have : (k + m) * sz ≤ cap * sz := Nat.mul_le_mul_right _ hroom
          rw [Nat.add_mul] at this
          omega
        · simp [List.drop_append]
      · -- a new row
        have hg : w.heap[g]? = some (.cells (xs ++ sp).toArray e (0, 0)) := hw.own (g, _) (by simp)
        have holds : ∀ j c, xs[j]? = some c → w.cell? ((⟨g, 0, none⟩ : Addr).add j) = some c := by
          intro j c hj
          rw [Addr.add_none, cell_at hg, Nat.zero_add, List.getElem?_append_left (List.getElem?_eq_some_iff.1 hj).1, hj]
        have hr := run_append_grow (P := P) (ty := ty) w t e ti z hu1 hi hz ⟨g, 0, none⟩ k cap xs (by rw [hs]; exact hv1) holds ⟨b, o, none⟩ m uc news (by rw [hs]; exact hul) hnews (by omega) (by omega) (by rw [hb]; exact growslice_fits (by omega) hmax)
        obtain ⟨arr, harr⟩ : ∃ arr, arr = xs.toArray ++ news.toArray ++ Builtin.zeroCells z.cells (grownCap w (k + m) cap e - (k + m)) := ⟨_, rfl⟩
        rw [← harr] at hr
        have hS : St i ((w.heap.size, .cells arr e (0, 0)) :: (g, .cells (xs ++ sp).toArray e (0, 0)) :: L0) (w.drew.alloc (.cells arr e (0, 0))) := St.push (w := w.drew) hw.drew rfl rfl rfl rfl
        refine ⟨_, _, i, (w.heap.size, .cells arr e (0, 0)) :: L0, hex _ _ hr, Imm.le.refl i, (hS.perm (List.Perm.swap _ _ _)).drop, ?_⟩
        subst harr
        have hge := grownCap_ge w (k + m) cap e
        refine h _ [(w.heap.size, _)] ⟨hlen, .inr ⟨w.heap.size, grownCap w (k + m) cap e, (Builtin.zeroCells z.cells (grownCap w (k + m) cap e - (k + m))).toList, rfl, by omega, ?_, ?_⟩⟩ (fun h0 => by cases h0)
        · simp only [List.length_append, Array.length_toList, size_zeroCells]
          rw [hv1, hul, hzs, ← Nat.add_mul, ← Nat.add_mul]; congr 1; omega
        · simp

/-! ### a slice that is written out -/
theorem putAt_some : ∀ (vs cs : List Value) (off : Nat), off + vs.length ≤ cs.length → putAt cs off vs = some (cs.take off ++ vs ++ cs.drop (off + vs.length))
  | [], cs, off, _ => by simp [putAt]
  | v :: vs, cs, off, h => by
    simp only [List.length_cons] at h
    have hlt : off < cs.length := by omega
    have h1 : setX cs off v = some (cs.set off v) := setX_some cs off v cs[off] (List.getElem?_eq_getElem hlt)
    have h2 := putAt_some vs (cs.set off v) (off + 1) (by simp; omega)
    simp only [putAt, h1, h2, Option.some.injEq]
    exact ((putAt_eq (v :: vs) cs off _ (by simp only [putAt, h1, h2])).1)
def flat : Nat → Nat → List (Nat × List Value) → Option (List Value)
  | _, _, [] => some []
  | sz, k, (j, vs) :: ps => bif Nat.beq j k && Nat.beq vs.length sz then (match flat sz (k + 1) ps with | some r => catX vs r | none => none) else none
where catX : List Value → List Value → Option (List Value)
  | [], r => some r
  | a :: l, r => match catX l r with | some x => some (a :: x) | none => none
theorem catX_eq : ∀ (l r x : List Value), flat.catX l r = some x → x = l ++ r
  | [], r, x, h => by cases h; rfl
  | a :: l, r, x, h => by
    simp only [flat.catX] at h
    split at h
    · rename_i y hy; cases h; rw [catX_eq l r y hy]; rfl
    · cases h
theorem fill_flat (sz : Nat) (hsz : 0 < sz) : ∀ (ps : List (Nat × List Value)) (vs : List (Nat × Value)) (k : Nat) (cs x : List Value), flat sz k ps = some x → cs.length = (k + ps.length) * sz →
    ps.map (fun p => (p.1, p.2.toArray)) = vs.map (fun p => (p.1, p.2.cells)) → Instr.fill (fun j => some (j * sz, sz)) cs.toArray vs = some (cs.take (k * sz) ++ x).toArray
  | [], vs, k, cs, x, h, hl, hv => by
    cases vs with
    | nil => cases h; simp only [Instr.fill]; rw [List.take_of_length_le (by simp at hl; omega)]; simp
    | cons _ _ => cases hv
  | (j, l) :: ps, vs, k, cs, x, h, hl, hv => by
    cases vs with
    | nil => cases hv
    | cons p vs =>
      obtain ⟨j', u⟩ := p
      simp only [List.map_cons, List.cons.injEq, Prod.mk.injEq] at hv
      obtain ⟨⟨rfl, hu⟩, hv⟩ := hv
      simp only [flat] at h
      cases hb : (Nat.beq j k && Nat.beq l.length sz) with
      | false => rw [hb] at h; cases h
      | true =>
        rw [hb] at h
        simp only [cond_true] at h
        simp only [Bool.and_eq_true] at hb
        have hj := Nat.eq_of_beq_eq_true hb.1
        have hll := Nat.eq_of_beq_eq_true hb.2
        subst hj
        split at h
        · rename_i r hr
          have hx := catX_eq _ _ _ h
          simp only [List.length_cons] at hl
          have hmul : (j + (ps.length + 1)) * sz = j * sz + sz + ps.length * sz := by rw [Nat.add_mul, Nat.add_mul]; omega
          have hp := putAt_some l cs (j * sz) (by rw [hll, hl, hmul]; omega)
          have hf := fold_put l cs (j * sz) _ hp
          have ih := fill_flat sz hsz ps vs (j + 1) (cs.take (j * sz) ++ l ++ cs.drop (j * sz + l.length)) r hr (by
            rw [List.length_append, List.length_append, List.length_take, List.length_drop, hll, hl, hmul, Nat.min_eq_left (by omega)]
            have : (j + 1 + ps.length) * sz = j * sz + sz + ps.length * sz := by rw [Nat.add_mul, Nat.add_mul]; omega
            omega) hv
          simp only [Instr.fill, ← hu]
          rw [if_neg]
          · rw [hf, ih, hx]
            congr 2
            have h1 : (j + 1) * sz = (cs.take (j * sz) ++ l).length := by
              rw [List.length_append, List.length_take, hll, Nat.add_mul, hl, hmul, Nat.min_eq_left (by omega)]; omega
            rw [h1, List.take_left]
            simp
          · simp [hll]; rw [hl, hmul]; omega
        · cases h
def bsl (T : Tab) (n : Nat) (f : Fr) (t len : Nat) (parts : List (Nat × Operand)) : Option (Nat × List Value) :=
  match tget T t with
  | some ⟨.slice e, _, _, _⟩ => match tget T e with
    | some x => (match evParts n f parts with | some ps => bif Nat.beq ps.length len && Nat.blt 0 x.size && Nat.ble (len * x.size) 16777216 then (match flat x.size 0 ps with | some cs => some (e, cs) | none => none) else none | none => none)
    | none => none
  | _ => none
theorem OpS.buildSlice (hT : T.ok P) {t len e : Nat} {parts : Array (Nat × Operand)} {cs : List Value} (h : bsl T n f t len parts.toList = some (e, cs)) (k : ∀ b, K (.slice (some ⟨b, 0, none⟩) len len) i ((b, .cells cs.toArray e (0, 0)) :: L)) :
    OpS P n ⟨dst, .buildSlice t len parts, ty, pos, aft, gd⟩ f i L K := by
  unfold bsl at h
  split at h
  · rename_i e' _ _ _ he
    split at h
    · rename_i x hx
      split at h
      · rename_i ps hps
        cases hb : (Nat.beq ps.length len && Nat.blt 0 x.size && Nat.ble (len * x.size) 16777216) with
        | false => rw [hb] at h; cases h
        | true =>
          rw [hb] at h
          simp only [cond_true] at h
          split at h
          · rename_i cs' hcs
            cases h
            simp only [Bool.and_eq_true] at hb
            obtain ⟨⟨hb1, hb2⟩, hb3⟩ := hb
            have hlen := Nat.eq_of_beq_eq_true hb1
            have hpos : 0 < x.size := by simpa [Nat.blt_eq] using hb2
            have hle : len * x.size ≤ 16777216 := Nat.le_of_ble_eq_true hb3
            have hu := (tget_ok hT he).und
            obtain ⟨_, hzl, ti, z, hi, hs, hby, hz, hzc⟩ := tget_ok hT hx
            refine OpS.valueW fun w hw => ?_
            have h1 : (zeroValue e).run P w = .ok z w := by simp [zeroValue, run_info hi, hz]
            have hfl : ∀ base : List Value, base.length = len * x.size → Instr.fill (fun j => some (j * x.size, x.size)) base.toArray (parts.toList.map fun p => (p.1, ev n f p.2)) = some cs.toArray := by
              intro base hbl
              have := fill_flat x.size hpos ps (parts.toList.map fun p => (p.1, ev n f p.2)) 0 base cs hcs (by rw [hbl, hlen, Nat.zero_add]) (evParts_spec _ _ hps)
              simpa using this
            have hpl : (parts.map fun (k, x) => (k, ev n f x)).toList = parts.toList.map fun p => (p.1, ev n f p.2) := by simp
            refine ⟨.slice (some ⟨w.heap.size, 0, none⟩) len len, { w with heap := w.heap.push (.cells cs.toArray e (0, 0)) }, i, _, ?_, Imm.le.refl i, hw.push rfl rfl rfl rfl, k _⟩
            have hrun : (Instr.buildSlice t len (parts.map fun (k, x) => (k, ev n f x))).run P w = .ok (.slice (some ⟨w.heap.size, 0, none⟩) len len) { w with heap := w.heap.push (.cells cs.toArray e (0, 0)) } := by
              unfold Instr.buildSlice
              rw [run_bind' _ _ _ _ _ (run_underlying hu w)]
              dsimp only
              have hsz : (sizeOf e).run P w = .ok x.size w := by simp [sizeOf, run_info hi, hs]
              rw [run_bind' _ _ _ _ _ hsz]
              rw [if_neg (by omega)]
              by_cases h0 : len * x.size = 0
              · rw [if_pos h0, run_bind' _ _ _ _ _ (show (pure #[] : Sem (Array Value)).run P w = .ok #[] w from rfl)]
                have hb0 := hfl ((Array.range (len * x.size)).map ((#[] : Array Value)[· % (#[] : Array Value).size]!)).toList (by simp)
                rw [Array.toArray_toList] at hb0
                rw [hpl, hb0]
                simp [newRow]
              · rw [if_neg h0, run_bind' _ _ _ _ _ h1, run_bind' _ _ _ _ _ (show (pure z.cells : Sem (Array Value)).run P w = .ok z.cells w from rfl)]
                have hb0 := hfl ((Array.range (len * x.size)).map (z.cells[· % z.cells.size]!)).toList (by simp)
                rw [Array.toArray_toList] at hb0
                rw [hpl, hb0]
                simp [newRow]
            simp only [execOp]
            rw [run_bind' _ _ _ _ _ hrun]
            rfl
          · cases h
      · cases h
    · cases h
  · cases h
end
end Go.Eng
namespace Go.Eng
open Go
section
variable {P : Program} {all : List Oper} {n : Nat} {r : List Oper} {f : Fr} {i : Imm} {L : SH} {K : Fr → Imm → SH → Prop} {dst : Option Nat} {ty : TypeId} {pos : String} {aft : Array Edge} {gd : Option (Nat × Bool)} {T : Tab} {v : Value}
theorem RS.append (hT : T.ok P) {t e sz bytes : Nat} {x y : Operand} {u : Value} {k m : Nat} {xs news : List Value} {O L0 : SH} (hg : gok n f all ⟨dst, .call ⟨.builtin .append, #[x, y], #[t, t]⟩, ty, pos, aft, gd⟩ = true) (hx : ev n f x = v) (hy : ev n f y = u)
    (hte : ∃ d, tget T t = some d ∧ d.desc = .slice e) (hee : ∃ d, tget T e = some d ∧ d.size = sz ∧ d.bytes = bytes) (hsz : 0 < sz)
    (hv : SlO e v sz k xs O) (hL : L = O ++ L0) (hu : Rd i L u sz m news) (hone : ∀ c ∈ news, c.oneCell' = true) (hmax : (k + m) * bytes ≤ 140737488355328) (hmax2 : k + m ≤ 9223372036854775807)
    (h : ∀ v' O', SlO e v' sz (k + m) (xs ++ news) O' → (v' = .slice none 0 0 → v = .slice none 0 0 ∧ m = 0) → RS P all n r (updO f dst v') i (O' ++ L0) K) : RS P all n (⟨dst, .call ⟨.builtin .append, #[x, y], #[t, t]⟩, ty, pos, aft, gd⟩ :: r) f i L K :=
  RS.step hg (OpS.append hT hx hy hte hee hsz hv hL hu hone hmax hmax2 h)
theorem RS.buildSlice (hT : T.ok P) {t len e : Nat} {parts : Array (Nat × Operand)} {cs : List Value} (hg : gok n f all ⟨dst, .buildSlice t len parts, ty, pos, aft, gd⟩ = true) (h : bsl T n f t len parts.toList = some (e, cs))
    (k : ∀ b, RS P all n r (updO f dst (.slice (some ⟨b, 0, none⟩) len len)) i ((b, .cells cs.toArray e (0, 0)) :: L) K) : RS P all n (⟨dst, .buildSlice t len parts, ty, pos, aft, gd⟩ :: r) f i L K :=
  RS.step hg (OpS.buildSlice hT h k)
end
theorem SlO.built (e : TypeId) (sz len : Nat) (b : Nat) (cs : List Value) (h : cs.length = len * sz) : SlO e (.slice (some ⟨b, 0, none⟩) len len) sz len cs [(b, .cells cs.toArray e (0, 0))] :=
  ⟨h, .inr ⟨b, len, [], rfl, Nat.le_refl _, by simpa using h, by simp⟩⟩
/-- what a function built is let be at its end -/
theorem FnS.frozen {P : Program} {g : FuncId} {args : List Value} {i : Imm} {L : SH} {e : TypeId} {sz n : Nat} {xs : List Value} (h : FnS P g args i L fun v' _ L' => ∃ O, SlO e v' sz n xs O ∧ L' = O ++ L) :
    FnS P g args i L fun v' i' L' => Sl i' v' sz n xs ∧ L' = L :=
  h.state fun v i' L' w _ hs ⟨O, hO, hL⟩ => by
    subst hL
    obtain ⟨i'', h1, h2, h3⟩ := hO.freeze hs
    exact ⟨i'', L, h1, h2, h3, rfl⟩
end Go.Eng
namespace Go.Eng
open Go
/-- the result is a struct: it is read out of its variable at the end -/
theorem FnS.introC {P : Program} {T : Tab} (hT : T.ok P) {g : FuncId} {fn : Func} {c : Code} {args : List Value} {i : Imm} {L : SH} {Post : Value → Imm → SH → Prop} {n a t : Nat}
    (hf : P.funcs[g]? = some fn) (hb : fn.body = some c) (hn : fn.ntmps = n) (hl : args.length ≤ n) (hres : fn.results = #[.cell a t])
    (h : CS P n c (argF 0 args) i L (retQ fun f i' L' => ∃ b off cs t' fz v, ev n f (.tmp a) = .pointer (some ⟨b, off, none⟩) ∧ Has i' L' b (.cells (List.toArray cs) t' fz) ∧ ldV T t off cs = some v ∧ Post v i' L')) : FnS P g args i L Post :=
  FnS.body hf hb hn hl _ (fun f i' L' w hs ⟨b, off, cs, t', fz, v, h1, h2, h3, h4⟩ => by
    have h5 := run_ldV hT (h2.block hs) h3
    have h6 : (loadVar t ⟨b, off, none⟩).run P w = .ok v w := by simpa [Instr.loadAt, Instr.sureAddr] using h5
    refine ⟨v, ?_, h4⟩
    simp only [results, hres]
    have h8 : (ofF n f).tmps[a]?.getD undef = .pointer (some ⟨b, off, none⟩) := by rw [evt]; exact h1
    simp [h8, asAddr, h6]) h
/-- a struct and a plain value -/
theorem FnS.introCT {P : Program} {T : Tab} (hT : T.ok P) {g : FuncId} {fn : Func} {c : Code} {args : List Value} {i : Imm} {L : SH} {Post : Value → Imm → SH → Prop} {n a t r : Nat}
    (hf : P.funcs[g]? = some fn) (hb : fn.body = some c) (hn : fn.ntmps = n) (hl : args.length ≤ n) (hres : fn.results = #[.cell a t, .tmp r])
    (h : CS P n c (argF 0 args) i L (retQ fun f i' L' => ∃ b off cs t' fz v, ev n f (.tmp a) = .pointer (some ⟨b, off, none⟩) ∧ Has i' L' b (.cells (List.toArray cs) t' fz) ∧ ldV T t off cs = some v ∧ Post (.tuple #[v, ev n f (.tmp r)]) i' L')) : FnS P g args i L Post :=
  FnS.body hf hb hn hl _ (fun f i' L' w hs ⟨b, off, cs, t', fz, v, h1, h2, h3, h4⟩ => by
    have h5 := run_ldV hT (h2.block hs) h3
    have h6 : (loadVar t ⟨b, off, none⟩).run P w = .ok v w := by simpa [Instr.loadAt, Instr.sureAddr] using h5
    refine ⟨_, ?_, h4⟩
    simp only [results, hres]
    have h8 : (ofF n f).tmps[a]?.getD undef = .pointer (some ⟨b, off, none⟩) := by rw [evt]; exact h1
    have h9 := evt n f r
    simp [h8, asAddr, h6, h9]) h
end Go.Eng
namespace Go.Eng
theorem Has.mem {i : Imm} {L : SH} {b : Nat} {o : Obj} (h : (b, o) ∈ L) : Has i L b o := Or.inr h
end Go.Eng
