/- RescanCompares, part 5: rescan.compare, the plain side. -/
import Derived.Test.YtmcajldlcomegaaW49
namespace Go.Proofs.Ytmcajldlcomegaa
open Go Go.Eng

/-! ### a set that is filled from a map -/
def leftM (ms : List VE) (seen : Array Nat) : Nat := (ms.filter fun e => !seen.contains e.2.2).length
theorem leftM_nil (ms : List VE) : leftM ms #[] = ms.length := by simp [leftM]
theorem leftM_push (ms : List VE) (seen : Array Nat) (e : VE) (he : e ∈ ms) (hne : e.2.2 ∉ seen) : leftM ms (seen.push e.2.2) < leftM ms seen := by
  have h1 : ∀ x : VE, (!(seen.push e.2.2).contains x.2.2) = (!seen.contains x.2.2 && !(x.2.2 == e.2.2)) := fun x => by
    have : (seen.push e.2.2).contains x.2.2 = (seen.contains x.2.2 || x.2.2 == e.2.2) := by
      rw [Bool.eq_iff_iff]; simp
    rw [this]; simp
  have h2 : ms.filter (fun x => !(seen.push e.2.2).contains x.2.2) = (ms.filter fun x => !seen.contains x.2.2).filter fun x => !(x.2.2 == e.2.2) := by
    rw [List.filter_filter]
    refine List.filter_congr fun x _ => ?_
    rw [h1 x, Bool.and_comm]
  unfold leftM
  rw [h2]
  refine List.length_filter_lt_length_iff_exists.2 ⟨e, List.mem_filter.2 ⟨he, by simpa using hne⟩, by simp⟩
structure SetInv (base : ByteArray → Prop) (ms : List VE) (n : Nat) (xs : List VE) (c : Nat) (seen : Array Nat) : Prop where
  ok : MapOk xs c
  few : xs.length + leftM ms seen ≤ n
  keys : ∀ a, a ∈ xs.map (fun e => e.1) ↔ base a ∨ ∃ e ∈ ms, e.1 = a ∧ e.2.2 ∈ seen
theorem SetInv.step {base : ByteArray → Prop} {ms : List VE} {n : Nat} {xs : List VE} {c cm : Nat} {seen : Array Nat} (h : SetInv base ms n xs c seen) (hm : MapOk ms cm) {e : VE} (he : e ∈ ms) (hne : e.2.2 ∉ seen) (v : Value) : SetInv base ms n (mput xs e.1 v c) (mclk xs e.1 c) (seen.push e.2.2) := by
  have h1 := leftM_push ms seen e he hne
  have h2 := mput_len xs e.1 v c
  have h3 := h.few
  refine ⟨h.ok.put _ _, by omega, fun a => ?_⟩
  have hk : a ∈ (mput xs e.1 v c).map (fun e => e.1) ↔ a ∈ xs.map (fun e => e.1) ∨ a = e.1 := by
    rw [mput_keys]
    split
    · rename_i hs
      exact ⟨.inl, fun h => h.elim id fun e' => by rw [e']; exact mget_key.1 hs⟩
    · rw [List.mem_append, List.mem_singleton]
  rw [hk, h.keys a]
  constructor
  · rintro ((h | ⟨x, hx, hxa, hxs⟩) | rfl)
    · exact .inl h
    · exact .inr ⟨x, hx, hxa, by simp [hxs]⟩
    · exact .inr ⟨e, he, rfl, by simp⟩
  · rintro (h | ⟨x, hx, hxa, hxs⟩)
    · exact .inl (.inl h)
    · rw [Array.mem_push] at hxs
      rcases hxs with hxs | hxs
      · exact .inl (.inr ⟨x, hx, hxa, hxs⟩)
      · have hxe : x = e := by
          have hb := hm.born
          clear h hk h1 h2 h3
          induction ms with
          | nil => cases hx
          | cons y ms ih =>
            simp only [List.map_cons, List.nodup_cons, List.mem_map, not_exists, not_and] at hb
            rcases List.mem_cons.1 hx with rfl | hx' <;> rcases List.mem_cons.1 he with rfl | he'
            · rfl
            · exact absurd hxs.symm (hb.1 e he')
            · exact absurd hxs (hb.1 x hx')
            · exact ih ⟨(List.nodup_cons.1 hm.keys).2, hb.2, fun z hz => hm.lt z (List.mem_cons_of_mem _ hz)⟩ he' hx' hb.2
        subst hxe
        exact .inr hxa.symm
theorem SetInv.all {base : ByteArray → Prop} {ms : List VE} {n : Nat} {xs : List VE} {c : Nat} {seen : Array Nat} (h : SetInv base ms n xs c seen) (hall : ∀ e ∈ ms, e.2.2 ∈ seen) (a : ByteArray) : a ∈ xs.map (fun e => e.1) ↔ base a ∨ a ∈ ms.map fun e => e.1 := by
  rw [h.keys a, List.mem_map]
  constructor
  · rintro (h | ⟨e, he, h1, _⟩)
    · exact .inl h
    · exact .inr ⟨e, he, h1⟩
  · rintro (h | ⟨e, he, h1⟩)
    · exact .inl h
    · exact .inr ⟨e, he, h1, hall e he⟩
theorem MapOf.keys {E : Type} {vl : E → Value} {nm : E → ByteArray} {es : List E} {ms : List VE} {c : Nat} (h : MapOf vl nm es ms c) (a : ByteArray) : (a ∈ ms.map fun e => e.1) ↔ a ∈ es.map nm := by
  rw [← mget_key, h.get a]
  have := firstE_none (nm := nm) (es := es) (a := a)
  cases hf : firstE nm es a with
  | none => rw [hf] at this; simpa using this.1 rfl
  | some e => rw [hf] at this; simp only [Option.map_some, Option.isSome_some, true_iff]; exact Classical.byContradiction fun k => by have := this.2 k; cases this

/-! ### what two lists differ in -/
section
variable {E : Type}
def diffAt (of_ : Int) (nm : E → ByteArray) (sm : E → E → Bool) (A B : List E) (a : ByteArray) : Option Diff :=
  match firstE nm A a, firstE nm B a with
  | none, _ => some ⟨of_, 1, a⟩
  | some _, none => some ⟨of_, 2, a⟩
  | some x, some y => if sm x y then none else some ⟨of_, 3, a⟩
theorem diffAt_l {of_ : Int} {nm : E → ByteArray} {sm : E → E → Bool} {A B : List E} {a : ByteArray} (h : firstE nm A a = none) : diffAt of_ nm sm A B a = some ⟨of_, 1, a⟩ := by simp only [diffAt, h]
theorem diffAt_m {of_ : Int} {nm : E → ByteArray} {sm : E → E → Bool} {A B : List E} {a : ByteArray} {x : E} (h : firstE nm A a = some x) (k : firstE nm B a = none) : diffAt of_ nm sm A B a = some ⟨of_, 2, a⟩ := by simp only [diffAt, h, k]
theorem diffAt_o {of_ : Int} {nm : E → ByteArray} {sm : E → E → Bool} {A B : List E} {a : ByteArray} {x y : E} (h : firstE nm A a = some x) (k : firstE nm B a = some y) (hs : sm x y = false) : diffAt of_ nm sm A B a = some ⟨of_, 3, a⟩ := by simp [diffAt, h, k, hs]
theorem diffAt_s {of_ : Int} {nm : E → ByteArray} {sm : E → E → Bool} {A B : List E} {a : ByteArray} {x y : E} (h : firstE nm A a = some x) (k : firstE nm B a = some y) (hs : sm x y = true) : diffAt of_ nm sm A B a = none := by simp [diffAt, h, k, hs]
/-- the differences of two lists -/
def DiffOf (of_ : Int) (nm : E → ByteArray) (sm : E → E → Bool) (A B : List E) (l : List Diff) : Prop :=
  ∃ names, Asc names ∧ (∀ a, a ∈ names ↔ a ∈ A.map nm ∨ a ∈ B.map nm) ∧ l = names.filterMap (diffAt of_ nm sm A B)
theorem DiffOf.unique {of_ : Int} {nm : E → ByteArray} {sm : E → E → Bool} {A B : List E} {l l' : List Diff} (h : DiffOf of_ nm sm A B l) (k : DiffOf of_ nm sm A B l') : l = l' := by
  obtain ⟨n1, a1, m1, rfl⟩ := h
  obtain ⟨n2, a2, m2, rfl⟩ := k
  rw [Asc.unique a1 a2 fun a => (m1 a).trans (m2 a).symm]
/-- lists of the same names -/
theorem DiffOf.exists (of_ : Int) (nm : E → ByteArray) (sm : E → E → Bool) (A : List E) (l : List Diff) (h : DiffOf of_ nm sm A A l) (hs : ∀ x ∈ A, sm x x = true) : l = [] := by
  obtain ⟨names, _, hm, rfl⟩ := h
  rw [List.filterMap_eq_nil_iff]
  intro a ha
  have : a ∈ A.map nm := by have := (hm a).1 ha; simpa using this
  unfold diffAt
  cases hf : firstE nm A a with
  | none => exact absurd this (firstE_none.1 hf)
  | some x => simp only [hs x (firstE_mem hf).1, if_true]
end
/-- elements as the walk wants them -/
structure ElsOk {E : Type} (cl : E → List Value) (nm : E → ByteArray) (sz : Nat) (es : List E) : Prop where
  len : ∀ e ∈ es, (cl e).length = sz
  one : ∀ e ∈ es, ∀ c ∈ cl e, c.oneCell' = true
  name : ∀ e ∈ es, nmAt (cl e) (nm e)
  size : ∀ e ∈ es, (nm e).size ≤ maxLen
theorem diffs_snoc (l : List Diff) (d : Diff) : diffs (l ++ [d]) = diffs l ++ [.int .i64 d.of_, .int .i64 d.how, .string d.name] := by simp [diffs]
theorem take_filterMap {α β : Type} {f : α → Option β} {l : List α} {k : Nat} {a : α} (h : l[k]? = some a) : (l.take (k + 1)).filterMap f = (l.take k).filterMap f ++ (f a).toList := by
  rw [List.take_add_one, h, List.filterMap_append]
  cases hf : f a <;> simp [hf]
theorem take_filterMap_len {α β : Type} {f : α → Option β} {l : List α} {k : Nat} (hk : k ≤ l.length) : ((l.take k).filterMap f).length ≤ k := by
  have := List.length_filterMap_le f (l.take k)
  rw [List.length_take] at this
  omega
end Go.Proofs.Ytmcajldlcomegaa
