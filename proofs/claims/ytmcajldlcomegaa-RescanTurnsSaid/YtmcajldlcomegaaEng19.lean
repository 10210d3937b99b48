/- The proof engine, part 19: parts of rows that are built, append to a row that is let be. No condition. -/
import Derived.Test.YtmcajldlcomegaaEng18
namespace Go.Eng
open Go
theorem Rd.perm {i : Imm} {L L' : SH} {v : Value} {sz n : Nat} {xs : List Value} (h : Rd i L v sz n xs) (hp : L.Perm L') : Rd i L' v sz n xs := by
  obtain ⟨ao, cap, e, hl, hx⟩ := h
  refine ⟨ao, cap, e, hl, hx.imp id ?_⟩
  rintro ⟨b, o, cs, t, fz, h1, h2, h3⟩
  exact ⟨b, o, cs, t, fz, h1, h2.imp id fun h => hp.mem_iff.1 h, h3⟩
/-- an element of a row that can be read -/
theorem Rd.at {i : Imm} {L : SH} {v : Value} {sz n : Nat} {xs : List Value} (h : Rd i L v sz n xs) {k : Nat} (hk : k < n) (hsz : 0 < sz) :
    ∃ b o cs t fz cap, v = .slice (some ⟨b, o, none⟩) n cap ∧ Has i L b (.cells (List.toArray cs) t fz) ∧ ∀ d, d < sz → cs[o + ((k : Nat) : Int).toNat * sz + d]? = xs[k * sz + d]? := by
  obtain ⟨ao, cap, rfl, hl, hx⟩ := h
  have hlt : ∀ d, d < sz → k * sz + d < xs.length := fun d hd => by
    rw [hl]
    have : (k + 1) * sz ≤ n * sz := Nat.mul_le_mul_right _ hk
    rw [Nat.add_mul] at this; omega
  rcases hx with rfl | ⟨b, o, cs, t, fz, rfl, h1, h2⟩
  · have := hlt 0 hsz; simp at this
  · refine ⟨b, o, cs, t, fz, cap, rfl, h1, fun d hd => ?_⟩
    rw [Int.toNat_natCast, Nat.add_assoc]
    exact h2 _ (hlt d hd)
theorem SlO.addr {e : TypeId} {ao : Option Addr} {sz n cap : Nat} {xs : List Value} {O : SH} (h : SlO e (.slice ao n cap) sz n xs O) : n ≤ cap ∧ ((ao = none ∧ n = 0 ∧ cap = 0) ∨ ∃ g, ao = some ⟨g, 0, none⟩) := by
  obtain ⟨_, ⟨hv, rfl, _⟩ | ⟨g, c, sp, hv, h2, _⟩⟩ := h
  · cases hv; exact ⟨Nat.le_refl _, .inl ⟨rfl, rfl, rfl⟩⟩
  · cases hv; exact ⟨h2, .inr ⟨g, rfl⟩⟩
/-- 's[:k]' of a row that is built -/
theorem SlO.takeO {e : TypeId} {ao : Option Addr} {sz n cap k : Nat} {xs : List Value} {O : SH} (h : SlO e (.slice ao n cap) sz n xs O) (hk : k ≤ n) : SlO e (.slice ao k cap) sz k (xs.take (k * sz)) O := by
  obtain ⟨hl, ⟨hv, rfl, rfl⟩ | ⟨g, c, sp, hv, h2, h3, rfl⟩⟩ := h
  · have : k = 0 := by omega
    subst this
    exact ⟨by simp, .inl ⟨hv, rfl, rfl⟩⟩
  · cases hv
    have hkn : k * sz ≤ n * sz := Nat.mul_le_mul_right _ hk
    refine ⟨by rw [List.length_take, hl]; omega, .inr ⟨g, cap, xs.drop (k * sz) ++ sp, rfl, by omega, ?_, ?_⟩⟩
    · rw [← List.append_assoc, List.take_append_drop]; exact h3
    · rw [← List.append_assoc, List.take_append_drop]
def tailA (ao : Option Addr) (cap k sz : Nat) : Option Addr := ao.map fun a => if cap = k then a else ⟨a.block, a.off + k * sz, none⟩
/-- 's[k:]' of a row that is built -/
theorem SlO.tailRd {e : TypeId} {ao : Option Addr} {sz n cap k : Nat} {xs : List Value} {O L M : SH} {i : Imm} (h : SlO e (.slice ao n cap) sz n xs O) (hk : k ≤ n) (hp : (O ++ L).Perm M) : Rd i M (.slice (tailA ao cap k sz) (n - k) (cap - k)) sz (n - k) (xs.drop (k * sz)) := by
  refine Rd.perm (L := O ++ L) ?_ hp
  obtain ⟨hl, ⟨hv, rfl, rfl⟩ | ⟨g, c, sp, hv, h2, h3, rfl⟩⟩ := h
  · have hxs : xs = [] := List.eq_nil_of_length_eq_zero (by simpa using hl)
    subst hxs
    exact ⟨_, _, rfl, by simp, .inl (by simp)⟩
  · cases hv
    refine ⟨_, _, rfl, by rw [List.length_drop, hl, Nat.sub_mul], ?_⟩
    by_cases hkn : k = n
    · subst hkn
      refine .inl ?_
      rw [← hl, List.drop_length]
    · refine .inr ⟨g, k * sz, xs ++ sp, e, (0, 0), ?_, .inr (by simp), fun j hj => ?_⟩
      · unfold tailA
        rw [Option.map_some, if_neg (by omega)]; simp
      · rw [List.length_drop] at hj
        rw [List.getElem?_append_left (by omega), List.getElem?_drop]
section
variable {P : Program} {n : Nat} {f : Fr} {i : Imm} {L : SH} {K : Value → Imm → SH → Prop} {dst : Option Nat} {ty : TypeId} {pos : String} {aft : Array Edge} {gd : Option (Nat × Bool)} {T : Tab}
theorem PV.sliceLoA (hT : T.ok P) {t sz l c j : Nat} {ao : Option Addr} {x y : Operand} {k : IntKind} (hx : ev n f x = .slice ao l c) (hy : ev n f y = .int k (j : Int)) (hs : elSz T t = some sz) (ha : (ao = none ∧ l = 0 ∧ c = 0) ∨ ∃ g, ao = some ⟨g, 0, none⟩) (h : j ≤ l) :
    PV P n f ⟨dst, .slice t x (some y) none none, ty, pos, aft, gd⟩ (.slice (tailA ao c j sz) (l - j) (c - j)) := by
  unfold PV; intro w
  obtain ⟨e, i, z, x', h1, h2, h3, h4, _⟩ := elSz_ok hT hs
  rcases ha with ⟨rfl, rfl, rfl⟩ | ⟨g, rfl⟩
  · have : j = 0 := by omega
    subst this
    simp [execOp, hx, hy, Instr.sliceAt, Instr.slice, Instr.sliceBounds, Instr.sliceBound, asIntOf, run_underlying h1, sizeOf, run_info h2, tailA]
  · have hj : (0 : Int) ≤ (j : Int) ∧ (j : Int) ≤ (l : Int) := by omega
    by_cases hc : c = j
    · simp [execOp, hx, hy, Instr.sliceAt, Instr.slice, Instr.sliceBounds, Instr.sliceBound, asIntOf, run_underlying h1, hj, sizeOf, run_info h2, hc, tailA, h]
    · simp [execOp, hx, hy, Instr.sliceAt, Instr.slice, Instr.sliceBounds, Instr.sliceBound, asIntOf, run_underlying h1, hj, sizeOf, run_info h2, hc, h3, tailA, Addr.add_none, h]
/-- append to a row that is full and let be: nothing is written -/
theorem OpS.appendF (hT : T.ok P) {t e sz bytes : Nat} {x y : Operand} {u v : Value} {b o k m : Nat} {xs news : List Value} (hx : ev n f x = v) (hvv : v = .slice (some ⟨b, o, none⟩) k k) (hy : ev n f y = u) (hte : ∃ d, tget T t = some d ∧ d.desc = .slice e) (hee : ∃ d, tget T e = some d ∧ d.size = sz ∧ d.bytes = bytes) (hsz : 0 < sz)
    (hv : Sl i v sz k xs) (hk0 : 0 < k) (hu : Rd i L u sz m news) (hmax : (k + m) * bytes ≤ 140737488355328) (hmax2 : k + m ≤ 9223372036854775807)
    (h : ∀ v' i', i.le i' → Sl i' v' sz (k + m) (xs ++ news) → K v' i' L) : OpS P n ⟨dst, .call ⟨.builtin .append, #[x, y], #[t, t]⟩, ty, pos, aft, gd⟩ f i L K := by
  subst hvv
  obtain ⟨d1, ht, hd⟩ := hte
  obtain ⟨d2, he, hes, heb⟩ := hee
  have hu1 := (tget_ok hT ht).und
  rw [hd] at hu1
  obtain ⟨_, hzl, ti, z, hi, hs, hb, hz, hzc⟩ := tget_ok hT he
  have hzs : z.cells.size = sz := by rw [hzc, List.size_toArray, hzl, hes]
  rw [hes] at hs
  rw [heb] at hb
  obtain ⟨uo, uc, rfl, hul, hur⟩ := hu
  obtain ⟨va, vc, hve, hvl, hvr⟩ := id hv
  cases hve
  refine OpS.valueW fun w hw => ?_
  have hex : ∀ r w', (Builtin.append_ #[t, t] ty #[.slice (some ⟨b, o, none⟩) k k, .slice uo m uc]).run P w = .ok r w' → (execOp (ev n f) ⟨dst, .call ⟨.builtin .append, #[x, y], #[t, t]⟩, ty, pos, aft, gd⟩).run P w = .ok (.value r) w' := by
    intro r w' hr
    simp [execOp, resolve, hx, hy, invoke, builtin, hr]
  by_cases hm : m = 0
  · subst hm
    have hn : news = [] := List.eq_nil_of_length_eq_zero (by simpa using hul)
    subst hn
    exact ⟨_, w, i, L, hex _ _ (run_append_zero w hu1 hi _ k k (Nat.le_refl _) uo uc), Imm.le.refl i, hw, h _ i (Imm.le.refl i) (by simpa using hv)⟩
  · have hne : news ≠ [] := by
      intro h0
      rw [h0] at hul
      have : 0 < m * sz := Nat.mul_pos (by omega) hsz
      simp at hul; omega
    have hnx : xs ≠ [] := by
      intro h0
      rw [h0] at hvl
      have : 0 < k * sz := Nat.mul_pos hk0 hsz
      simp at hvl; omega
    obtain ⟨b2, o2, cs2, tt2, fz2, rfl, hbl2, hcell2⟩ := hur.resolve_left hne
    obtain ⟨b3, o3, cs3, tt3, fz3, he3, hbl3, hcell3⟩ := hvr.resolve_left hnx
    cases he3
    have hnews : ∀ j c, news[j]? = some c → w.cell? ((⟨b2, o2, none⟩ : Addr).add j) = some c := by
      intro j c hj
      rw [Addr.add_none, cell_at (hbl2.block hw), hcell2 j (List.getElem?_eq_some_iff.1 hj).1, hj]
    have holds : ∀ j c, xs[j]? = some c → w.cell? ((⟨b, o, none⟩ : Addr).add j) = some c := by
      intro j c hj
      rw [Addr.add_none, cell_at (hw.imm _ _ hbl3), hcell3 j (List.getElem?_eq_some_iff.1 hj).1, hj]
    have hr := run_append_grow (P := P) (ty := ty) w t e ti z hu1 hi hz ⟨b, o, none⟩ k k xs (by rw [hs]; exact hvl) holds ⟨b2, o2, none⟩ m uc news (by rw [hs]; exact hul) hnews (by omega) (by omega) (by rw [hb]; exact growslice_fits (by omega) hmax)
    obtain ⟨arr, harr⟩ : ∃ arr, arr = xs.toArray ++ news.toArray ++ Builtin.zeroCells z.cells (grownCap w (k + m) k e - (k + m)) := ⟨_, rfl⟩
    rw [← harr] at hr
    have hS : St i ((w.heap.size, .cells arr e (0, 0)) :: L) (w.drew.alloc (.cells arr e (0, 0))) := St.push (w := w.drew) hw.drew rfl rfl rfl rfl
    obtain ⟨f1, f2⟩ := hS.freeze
    refine ⟨_, _, _, L, hex _ _ hr, f1, f2, h _ _ f1 ?_⟩
    have hlen : (xs ++ news).length = (k + m) * sz := by rw [List.length_append, hvl, hul, Nat.add_mul]
    refine ⟨_, _, rfl, hlen, .inr ⟨w.heap.size, 0, arr.toList, e, (0, 0), rfl, by simp [Imm.add], fun j hj => ?_⟩⟩
    rw [harr]
    simp only [Array.toList_append, Nat.zero_add]
    rw [List.getElem?_append_left (by simpa using hj)]
end
end Go.Eng
