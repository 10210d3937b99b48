/- Spoilt, part 1: the record under change. -/
import Derived.Test.YtmcajldlcomegaaW39
import Derived.Test.YtmcajldlcomegaaEng15
namespace Go.Proofs.Ytmcajldlcomegaa
open Go Go.Eng

/-- memory while a record is changed: three of its slices are ours -/
def SpH (tp b3 b4 : Nat) (lv : Value) (R : SH) (at' : Int) (props : List (ByteArray × ByteArray)) (tags links : List ByteArray) (i : Imm) (L : SH) : Prop :=
  ∃ (path : ByteArray) (index : Int) (run load : List ByteArray) (p2 : Option Addr) (q2 : Nat) (p3 : Option Addr) (q3 : Nat) (p4 : Option Addr) (q4 : Nat) (p5 : Option Addr) (q5 : Nat) (p6 : Option Addr) (q6 : Nat) (name : ByteArray) (prio : Int) (owner group : ByteArray) (mode : Int) (O1 O2 O3 : SH),
    SlO 103 (.slice p2 props.length q2) 2 props.length (attrs props) O1 ∧ SlO 9 (.slice p3 tags.length q3) 1 tags.length (strs tags) O2 ∧ SlO 9 (.slice p4 links.length q4) 1 links.length (strs links) O3 ∧
    Sl i (.slice p5 run.length q5) 1 run.length (strs run) ∧ Sl i (.slice p6 load.length q6) 1 load.length (strs load) ∧ run.length ≤ 10000000 ∧ load.length ≤ 10000000 ∧
    L = (b3, .cells (List.toArray [.string path, .int .i64 index, .slice p2 props.length q2, .slice p3 tags.length q3, .slice p4 links.length q4, .slice p5 run.length q5, .slice p6 load.length q6, .string name, .int .i64 prio, .string owner, .string group, .int .i64 mode]) 36 (0, 0)) :: (b4, .cells (List.toArray [.string ByteArray.empty, .int .i64 0, .slice none 0 0, .slice none 0 0, .slice none 0 0, .slice none 0 0, .slice none 0 0, .string ByteArray.empty, .int .i64 0, .string ByteArray.empty, .string ByteArray.empty, .int .i64 0]) 36 (0, 0)) :: (tp, tapeO lv at') :: (O1 ++ (O2 ++ (O3 ++ R)))
theorem SlO.mine {e : TypeId} {a : Option Addr} {sz n cap : Nat} {xs : List Value} {O : SH} (h : SlO e (.slice a n cap) sz n xs O) (hn : 0 < n) : ∃ g sp, a = some ⟨g, 0, none⟩ ∧ n ≤ cap ∧ (xs ++ sp).length = cap * sz ∧ xs.length = n * sz ∧ O = [(g, .cells (xs ++ sp).toArray e (0, 0))] := by
  obtain ⟨h1, ⟨h2, h3, _⟩ | ⟨g, cap', sp, h2, h3, h4, h5⟩⟩ := h
  · omega
  · cases h2
    exact ⟨g, sp, rfl, h3, h4, h1, h5⟩
theorem SlO.again {e : TypeId} {g sz n cap : Nat} {xs xs' sp : List Value} (h3 : n ≤ cap) (h4 : (xs ++ sp).length = cap * sz) (h1 : xs.length = n * sz) (hl : xs'.length = xs.length) : SlO e (.slice (some ⟨g, 0, none⟩) n cap) sz n xs' [(g, .cells (xs' ++ sp).toArray e (0, 0))] :=
  ⟨by omega, .inr ⟨g, cap, sp, rfl, h3, by rw [List.length_append] at h4 ⊢; omega, rfl⟩⟩
theorem SCells.ofAttrs (l : List (ByteArray × ByteArray)) : SCells (attrs l) := by
  intro c hc
  simp only [attrs, List.mem_flatMap] at hc
  obtain ⟨p, _, hc⟩ := hc
  simp at hc
  rcases hc with rfl | rfl <;> exact ⟨_, rfl⟩
theorem SCells.attrs : ∀ (n : Nat) (cs : List Value), SCells cs → cs.length = n * 2 → ∃ l : List (ByteArray × ByteArray), l.length = n ∧ cs = attrs l
  | 0, cs, _, hl => ⟨[], rfl, List.eq_nil_of_length_eq_zero (by omega)⟩
  | n + 1, [], _, hl => by simp at hl
  | n + 1, [_], _, hl => by simp at hl; omega
  | n + 1, x :: y :: cs, h, hl => by
    obtain ⟨a, rfl⟩ := h x (by simp)
    obtain ⟨b, rfl⟩ := h y (by simp)
    obtain ⟨l, h1, h2⟩ := SCells.attrs n cs (fun c hc => h c (by simp [hc])) (by simp at hl; omega)
    exact ⟨(a, b) :: l, by simp [h1], by rw [h2]; simp [Ytmcajldlcomegaa.attrs]⟩
theorem SCells.put2 {xs vs : List Value} (sp : List Value) {off : Nat} (hx : SCells xs) (hv : SCells vs) (h : off + vs.length ≤ xs.length) : ∃ xs', putAt (xs ++ sp) off vs = some (xs' ++ sp) ∧ xs'.length = xs.length ∧ SCells xs' := by
  refine ⟨xs.take off ++ vs ++ xs.drop (off + vs.length), ?_, ?_, ?_⟩
  · rw [putAt_some _ _ _ (by rw [List.length_append]; omega), List.take_append_of_le_length (by omega), List.drop_append_of_le_length h]
    simp
  · simp; omega
  · intro c hc
    simp only [List.mem_append] at hc
    rcases hc with (hc | hc) | hc
    · exact hx c (List.mem_of_mem_take hc)
    · exact hv c hc
    · exact hx c (List.mem_of_mem_drop hc)
theorem SCells.atA {xs : List Value} (sp : List Value) (h : SCells xs) {k : Nat} (hk : k < xs.length) : ∃ s, (xs ++ sp)[k]? = some (.string s) := by
  obtain ⟨s, hs⟩ := h.at hk
  exact ⟨s, by rw [List.getElem?_append_left hk]; exact hs⟩
theorem two_at {cs : List Value} {off : Nat} {a b : ByteArray} (h0 : cs[off + 0]? = some (.string a)) (h1 : cs[off + 1]? = some (.string b)) : ∀ (j : Nat) u, [Value.string a, .string b][j]? = some u → cs[off + j]? = some u
  | 0, u, h => by cases h; exact h0
  | 1, u, h => by cases h; exact h1
  | j + 2, u, h => by cases h
/-- what a spoilt record still is -/
structure Rec.tame (r : Rec) : Prop where
  props : r.props.length ≤ 10000000
  tags : r.tags.length ≤ 10000000
  links : r.links.length ≤ 1000000
  run : r.run.length ≤ 10000000
  load : r.load.length ≤ 10000000
theorem Rec.tame.small {r : Rec} (h : r.tame) : r.small := by
  obtain ⟨h1, h2, h3, h4, h5⟩ := h
  exact ⟨by omega, by omega, by omega, by omega, by omega⟩
/-- the made slices are let be: what memory holds reads as a record -/
theorem CS.unSp {P : Program} {m : Nat} {c : Code} {f : Fr} {i : Imm} {L R : SH} {Q : Ex → Fr → Imm → SH → Prop} {tp b3 b4 : Nat} {lv : Value} {at' : Int} {props : List (ByteArray × ByteArray)} {tags links : List ByteArray}
    (hS : SpH tp b3 b4 lv R at' props tags links i L) (h1 : props.length ≤ 10000000) (h2 : tags.length ≤ 10000000) (h3 : links.length ≤ 1000000)
    (h : ∀ i' rc r, i.le i' → RecV i' rc r → r.tame → CS P m c f i' ((b3, .cells (List.toArray rc) 36 (0, 0)) :: (b4, .cells (List.toArray [.string ByteArray.empty, .int .i64 0, .slice none 0 0, .slice none 0 0, .slice none 0 0, .slice none 0 0, .slice none 0 0, .string ByteArray.empty, .int .i64 0, .string ByteArray.empty, .string ByteArray.empty, .int .i64 0]) 36 (0, 0)) :: (tp, tapeO lv at') :: R) Q) : CS P m c f i L Q := by
  obtain ⟨path, index, run, load, p2, q2, p3, q3, p4, q4, p5, q5, p6, q6, name, prio, owner, group, mode, O1, O2, O3, s2, s3, s4, s5, s6, hr, hl, rfl⟩ := hS
  refine CS.freezeSl (L0 := (b3, .cells (List.toArray [.string path, .int .i64 index, .slice p2 props.length q2, .slice p3 tags.length q3, .slice p4 links.length q4, .slice p5 run.length q5, .slice p6 load.length q6, .string name, .int .i64 prio, .string owner, .string group, .int .i64 mode]) 36 (0, 0)) :: (b4, .cells (List.toArray [.string ByteArray.empty, .int .i64 0, .slice none 0 0, .slice none 0 0, .slice none 0 0, .slice none 0 0, .slice none 0 0, .string ByteArray.empty, .int .i64 0, .string ByteArray.empty, .string ByteArray.empty, .int .i64 0]) 36 (0, 0)) :: (tp, tapeO lv at') :: (O2 ++ (O3 ++ R))) s2 ?_ (fun i1 hi1 g2 => ?_)
  · refine perm_of_sum _ _ fun f => ?_
    simp only [List.map_append, List.map_cons, List.sum_append, List.sum_cons]
    omega
  refine CS.freezeSl (L0 := (b3, .cells (List.toArray [.string path, .int .i64 index, .slice p2 props.length q2, .slice p3 tags.length q3, .slice p4 links.length q4, .slice p5 run.length q5, .slice p6 load.length q6, .string name, .int .i64 prio, .string owner, .string group, .int .i64 mode]) 36 (0, 0)) :: (b4, .cells (List.toArray [.string ByteArray.empty, .int .i64 0, .slice none 0 0, .slice none 0 0, .slice none 0 0, .slice none 0 0, .slice none 0 0, .string ByteArray.empty, .int .i64 0, .string ByteArray.empty, .string ByteArray.empty, .int .i64 0]) 36 (0, 0)) :: (tp, tapeO lv at') :: (O3 ++ R)) s3 ?_ (fun i2 hi2 g3 => ?_)
  · refine perm_of_sum _ _ fun f => ?_
    simp only [List.map_append, List.map_cons, List.sum_append, List.sum_cons]
    omega
  refine CS.freezeSl (L0 := (b3, .cells (List.toArray [.string path, .int .i64 index, .slice p2 props.length q2, .slice p3 tags.length q3, .slice p4 links.length q4, .slice p5 run.length q5, .slice p6 load.length q6, .string name, .int .i64 prio, .string owner, .string group, .int .i64 mode]) 36 (0, 0)) :: (b4, .cells (List.toArray [.string ByteArray.empty, .int .i64 0, .slice none 0 0, .slice none 0 0, .slice none 0 0, .slice none 0 0, .slice none 0 0, .string ByteArray.empty, .int .i64 0, .string ByteArray.empty, .string ByteArray.empty, .int .i64 0]) 36 (0, 0)) :: (tp, tapeO lv at') :: R) s4 ?_ (fun i3 hi3 g4 => ?_)
  · refine perm_of_sum _ _ fun f => ?_
    simp only [List.map_append, List.map_cons, List.sum_append, List.sum_cons]
    omega
  have hi := (hi1.trans hi2).trans hi3
  exact h i3 _ ⟨path, index, props, tags, links, run, load, name, prio, owner, group, mode⟩ hi ⟨_, _, _, _, _, rfl, (g2.le hi2).le hi3, g3.le hi3, g4, s5.le hi, s6.le hi⟩ ⟨h1, h2, h3, hr, hl⟩
theorem SlO.snocS {e : TypeId} {v : Value} {l : List ByteArray} {x : ByteArray} {O : SH} (h : SlO e v 1 (l.length + 1) (strs l ++ strs [x]) O) : SlO e v 1 (l ++ [x]).length (strs (l ++ [x])) O := by
  rw [List.length_append, show strs (l ++ [x]) = strs l ++ strs [x] by simp [strs]]; exact h
theorem SlO.snocA {e : TypeId} {v : Value} {l : List (ByteArray × ByteArray)} {x y : ByteArray} {O : SH} (h : SlO e v 2 (l.length + 1) (attrs l ++ [.string x, .string y]) O) : SlO e v 2 (l ++ [(x, y)]).length (attrs (l ++ [(x, y)])) O := by
  rw [List.length_append, show attrs (l ++ [(x, y)]) = attrs l ++ [.string x, .string y] by simp [attrs]]; exact h
end Go.Proofs.Ytmcajldlcomegaa
