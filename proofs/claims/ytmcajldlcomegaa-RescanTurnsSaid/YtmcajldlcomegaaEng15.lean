/- The proof engine, part 15: strings in order, bytes, texts in blocks. No condition. -/
import Derived.Test.YtmcajldlcomegaaEng14
namespace Go.Eng
open Go
section
variable {P : Program} {n : Nat} {f : Fr} {i : Imm} {L : SH} {dst : Option Nat} {ty : TypeId} {pos : String} {aft : Array Edge} {gd : Option (Nat × Bool)} {t t2 : Nat} {x y : Operand} {T : Tab}
theorem PV.slss {p q : ByteArray} (hx : ev n f x = .string p) (hy : ev n f y = .string q) : PV P n f ⟨dst, .binOp .lss t x y t2, ty, pos, aft, gd⟩ (.bool (decide (Op.bytesLess p.toList q.toList = true))) := by
  unfold PV; intro w
  simp [execOp, hx, hy, eqGuard, binOp, Op.stringOp]
/-- a number made a byte -/
theorem PV.toU8 (hT : T.ok P) {a : Int} {k : IntKind} (hs : ∃ d, tget T t = some d) (hd : ∃ d, tget T t2 = some d ∧ d.desc = .int .u8) (hx : ev n f x = .int k a) : PV P n f ⟨dst, .convert t t2 x, ty, pos, aft, gd⟩ (.int .u8 (IntKind.u8.wrap a)) := by
  obtain ⟨d1, h1⟩ := hs
  obtain ⟨d2, h2, h3⟩ := hd
  have u1 := (tget_ok hT h1).und
  have u2 := (tget_ok hT h2).und
  rw [h3] at u2
  unfold PV; intro w
  simp [execOp, hx, convert, run_underlying u1, run_underlying u2, Conv.intToInt]
def bytesOf : List Value → ByteArray → Option ByteArray
  | [], s => some s
  | .int .u8 k :: l, s => bytesOf l (s.push (UInt8.ofNat k.toNat))
  | _ :: _, _ => none
theorem bytesOf_some : ∀ (l : List Value) (s : ByteArray), (∀ c ∈ l, ∃ k, c = .int .u8 k) → ∃ r, bytesOf l s = some r ∧ r.size = s.size + l.length
  | [], s, _ => ⟨s, rfl, rfl⟩
  | c :: l, s, h => by
    obtain ⟨k, rfl⟩ := h c (by simp)
    obtain ⟨r, h1, h2⟩ := bytesOf_some l (s.push (UInt8.ofNat k.toNat)) fun c hc => h c (by simp [hc])
    exact ⟨r, h1, by rw [h2, ByteArray.size_push]; simp; omega⟩
theorem run_bytes (w : World) (g : Value → ByteArray → Sem (ForInStep ByteArray)) (hg : ∀ k s, g (.int .u8 k) s = pure (ForInStep.yield (s.push (UInt8.ofNat k.toNat)))) : ∀ (l : List Value) (s r : ByteArray), bytesOf l s = some r → (forIn (m := Sem) l s g).run P w = .ok r w
  | [], s, r, h => by cases h; simp
  | c :: l, s, r, h => by
    unfold bytesOf at h
    split at h
    · rename_i hq; cases hq
    · rename_i k l' s' hq
      cases hq
      rw [List.forIn_cons, hg]
      simp only [Sem.run_bind, Sem.run_pure, Result.andThen_ok]
      exact run_bytes w g hg l _ r h
    · cases h
/-- bytes made a text -/
theorem LV.bytesS (hT : T.ok P) {e et : TypeId} {b l c : Nat} {cs : List Value} {fz : Nat × Nat} {r : ByteArray} (hs : ∃ d, tget T t = some d ∧ d.desc = .slice e) (he : ∃ d, tget T e = some d ∧ d.desc = .int .u8) (hd : ∃ d, tget T t2 = some d ∧ d.desc = .string)
    (hx : ev n f x = .slice (some ⟨b, 0, none⟩) l c) (hb : Has i L b (.cells cs.toArray et fz)) (hl : l = cs.length) (hr : bytesOf cs ByteArray.empty = some r) : LV P n f i L ⟨dst, .convert t t2 x, ty, pos, aft, gd⟩ (.string r) := by
  obtain ⟨d1, h1, h1'⟩ := hs
  obtain ⟨d2, h2, h2'⟩ := he
  obtain ⟨d3, h3, h3'⟩ := hd
  have u1 := (tget_ok hT h1).und
  have u2 := (tget_ok hT h2).und
  have u3 := (tget_ok hT h3).und
  rw [h1'] at u1
  rw [h2'] at u2
  rw [h3'] at u3
  subst hl
  unfold LV; intro w hw
  have hc := run_loadCells_list (P := P) w ⟨b, 0, none⟩ cs (fun j u hj => by rw [Addr.add_none, cell_at (hb.block hw), Nat.zero_add]; exact hj)
  simp only [execOp, hx, convert, run_underlying u1, run_underlying u2, run_underlying u3, Conv.bytesToString, Sem.run_bind, Result.andThen_ok, hc, List.forIn_toArray]
  rw [run_bytes w _ (fun _ _ => rfl) cs ByteArray.empty r hr]
  simp
end
/-! ### texts in a block -/
def SCells (cs : List Value) : Prop := ∀ c ∈ cs, ∃ s, c = .string s
theorem SCells.strs : ∀ cs : List Value, SCells cs → ∃ ss : List (ByteArray), ss.length = cs.length ∧ cs = ss.map Value.string
  | [], _ => ⟨[], rfl, rfl⟩
  | c :: cs, h => by
    obtain ⟨s, rfl⟩ := h c (by simp)
    obtain ⟨ss, h1, h2⟩ := SCells.strs cs fun c hc => h c (by simp [hc])
    exact ⟨s :: ss, by simp [h1], by rw [h2]; rfl⟩
theorem SCells.at {cs : List Value} (h : SCells cs) {k : Nat} (hk : k < cs.length) : ∃ s, cs[k]? = some (.string s) := by
  obtain ⟨s, hs⟩ := h cs[k] (List.getElem_mem hk)
  exact ⟨s, by rw [List.getElem?_eq_getElem hk, hs]⟩
theorem SCells.put {cs cs' vs : List Value} {off : Nat} (h : SCells cs) (hv : SCells vs) (hp : putAt cs off vs = some cs') : SCells cs' := by
  obtain ⟨e, _⟩ := putAt_eq _ _ _ _ hp
  intro c hc
  rw [e] at hc
  simp only [List.mem_append] at hc
  rcases hc with (hc | hc) | hc
  · exact h c (List.mem_of_mem_take hc)
  · exact hv c hc
  · exact h c (List.mem_of_mem_drop hc)
end Go.Eng
