/- The proof engine, part 4: a region whose order is drawn: one obligation an operation, whatever the order. No condition. -/
import Derived.Test.YtmcajldlcomegaaEng3
import Derived.StillTail
namespace Go.Eng
open Go

abbrev Kap := Nat → Imm → Value → Prop
def updK (κ : Kap) : Option Nat → (Imm → Value → Prop) → Kap
  | some d, K => fun t => if t = d then K else κ t
  | none, _ => κ
def Mono (K : Imm → Value → Prop) : Prop := ∀ i i', Imm.le i i' → ∀ v, K i v → K i' v

def waits (all : List Oper) (j i : Nat) : Bool :=
  match all[j]? with
  | some o => o.after.toList.any fun e => Region.binds .any e && Nat.beq e.on i
  | none => false
/-- what an operation of the head owes -/
def Ob (P : Program) (all : List Oper) (n : Nat) (i0 : Imm) (Ls : List SH) (lc : List Nat) (k : Nat) (o : Oper) (κ : Kap) (K : Imm → Value → Prop) : Prop :=
  ∀ i', i0.le i' → ∀ g : Fr, (∀ t ∈ o.looksAt all.toArray, κ t i' (g t)) →
    if gok n g all o = true then
      (k ∉ lc → ∀ (q : Nat) (L' : SH), Ls[q]? = some L' → (∀ (q' j : Nat), q' < q → lc[q']? = some j → waits all j k = false) → OpS P n o g i' L' fun v i'' L'' => L'' = L' ∧ K i'' v) ∧
      (∀ q, lc[q]? = some k → ∀ L' M', Ls[q]? = some L' → Ls[q + 1]? = some M' → OpS P n o g i' L' fun v i'' L'' => L'' = M' ∧ K i'' v)
    else K i' undef ∧ k ∉ lc

def RG0 (P : Program) (all : List Oper) (n : Nat) (i0 : Imm) (Ls : List SH) (lc : List Nat) (Kont : Kap → Prop) : List Nat → Kap → Prop
  | [], κ => Kont κ
  | k :: r, κ => ∃ o K, all[k]? = some o ∧ Mono K ∧ Ob P all n i0 Ls lc k o κ K ∧ RG0 P all n i0 Ls lc Kont r (updK κ o.dst K)

/-! ### the check of the order, by computation -/
def dstIs (all : List Oper) (j t : Nat) : Bool :=
  match all[j]? with
  | some o => (match o.dst with | some d => Nat.beq d t | none => false)
  | none => false
/-- head op k, 'before': the head's ops ahead of it, 'later': those behind it -/
def okOp (all : List Oper) (k : Nat) (before later : List Nat) (t1 : Option Nat) : Bool :=
  match all[k]? with
  | some o =>
    ((o.looksAt all.toArray).all fun t => (List.range all.length).all fun j => !dstIs all j t || (before.contains j && waits all k j) || !(before.contains j || later.contains j)) &&
    (match o.dst with
      | some d => !((o.looksAt all.toArray).contains d) && (later.all fun j => !dstIs all j d)
      | none => true) &&
    (o.after.toList.all fun e => !Region.binds .any e || before.contains e.on) &&
    !before.contains k &&
    (match t1 with
      | some t => waits all t k || later.any (fun j => waits all j k)
      | none => true)
  | none => false
def okHead (all : List Oper) (t1 : Option Nat) : List Nat → List Nat → Bool
  | _, [] => true
  | before, k :: later => okOp all k before later t1 && okHead all t1 (before ++ [k]) later
def okChain (all : List Oper) : List Nat → Bool
  | a :: b :: l => waits all b a && okChain all (b :: l)
  | _ => true
def okCover (all : List Oper) (head tail : List Nat) : Bool := (List.range all.length).all fun k => (head.contains k && !tail.contains k) || (!head.contains k && tail.contains k)
def seqI (ops : Array Oper) : List Nat → Array Bool → Bool
  | [], listed => (Region.ready .any ops listed).isEmpty
  | t :: ts, listed => decide (Region.ready .any ops listed = [t]) && seqI ops ts (listed.setIfInBounds t true)
def headArr (all : List Oper) (head : List Nat) : Array Bool := (Array.range all.length).map fun k => head.contains k
def rgOk (all : List Oper) (head tail lc : List Nat) : Bool :=
  okHead all tail.head? [] head && okChain all tail && okChain all lc && okCover all head tail && lc.all (head.contains ·) && seqI all.toArray tail (headArr all head)

section
variable {P : Program} {all : List Oper} {n : Nat} {i0 : Imm} {Ls : List SH} {lc : List Nat}

theorem waits_spec {j i : Nat} (h : waits all j i = true) : ∃ o, all[j]? = some o ∧ ∃ e ∈ o.after, Region.binds .any e = true ∧ e.on = i := by
  unfold waits at h
  split at h
  · rename_i o ho
    obtain ⟨e, he, hb⟩ := List.any_eq_true.1 h
    simp only [Bool.and_eq_true] at hb
    exact ⟨o, ho, e, by simpa using he, hb.1, Nat.eq_of_beq_eq_true hb.2⟩
  · cases h
theorem dstIs_of {j t : Nat} {o : Oper} (ho : all[j]? = some o) (hd : o.dst = some t) : dstIs all j t = true := by
  simp [dstIs, ho, hd]

theorem okHead_lt {t1 : Option Nat} : ∀ (r b : List Nat), okHead all t1 b r = true → ∀ x ∈ r, x < all.length := by
  intro r
  induction r with
  | nil => intro b _ x hx; cases hx
  | cons y r ih2 =>
    intro b hb x hx
    simp only [okHead, Bool.and_eq_true] at hb
    rcases List.mem_cons.1 hx with rfl | hx
    · have := hb.1
      unfold okOp at this
      split at this
      · rename_i hy; exact (List.getElem?_eq_some_iff.1 hy).1
      · cases this
    · exact ih2 _ hb.2 x hx
theorem okHead_notin {t1 : Option Nat} : ∀ (r b : List Nat), okHead all t1 b r = true → ∀ x ∈ r, x ∉ b := by
  intro r
  induction r with
  | nil => intro b _ x hx; cases hx
  | cons y r ih2 =>
    intro b hb x hx hxb
    simp only [okHead, Bool.and_eq_true] at hb
    rcases List.mem_cons.1 hx with rfl | hx
    · have := hb.1
      unfold okOp at this
      split at this
      · simp only [Bool.and_eq_true, Bool.not_eq_true'] at this
        have h6 := this.1.2
        simp [hxb] at h6
      · cases this
    · exact ih2 _ hb.2 x hx (List.mem_append_left _ hxb)

/-- the slot predicates that the chain ends with -/
theorem RG0.table {Kont : Kap → Prop} {t1 : Option Nat} : ∀ (r before : List Nat) (κ : Kap), RG0 P all n i0 Ls lc Kont r κ → okHead all t1 before r = true → (∀ t, Mono (κ t)) →
    ∃ κ' : Kap, Kont κ' ∧ (∀ t, Mono (κ' t)) ∧ (∀ t, (∀ k ∈ r, dstIs all k t = false) → κ' t = κ t) ∧
      ∀ k ∈ r, ∃ o K, all[k]? = some o ∧ Mono K ∧ Ob P all n i0 Ls lc k o κ' K ∧ (∀ d, o.dst = some d → κ' d = K) := by
  intro r
  induction r with
  | nil =>
    intro before κ h _ hm
    exact ⟨κ, h, hm, fun _ _ => rfl, fun k hk => by cases hk⟩
  | cons k r ih =>
    intro before κ h hok hm
    obtain ⟨o, K, ho, hK, hob, hr⟩ := h
    simp only [okHead, Bool.and_eq_true] at hok
    have hm' : ∀ t, Mono (updK κ o.dst K t) := by
      intro t
      cases hd : o.dst with
      | none => simpa [updK] using hm t
      | some d =>
        simp only [updK]
        split
        · exact hK
        · exact hm t
    obtain ⟨κ', h1, h2, h3, h4⟩ := ih (before ++ [k]) _ hr hok.2 hm'
    have hop := hok.1
    simp only [okOp, ho, Bool.and_eq_true] at hop
    obtain ⟨⟨⟨⟨hlook, hdst⟩, _⟩, _⟩, _⟩ := hop
    refine ⟨κ', h1, h2, fun t ht => ?_, fun k' hk' => ?_⟩
    · rw [h3 t (fun k' hk' => ht k' (List.mem_cons_of_mem _ hk'))]
      cases hd : o.dst with
      | none => rfl
      | some d =>
        simp only [updK]
        rw [if_neg]
        rintro rfl
        have := ht k (List.mem_cons_self ..)
        rw [dstIs_of ho hd] at this; cases this
    · rcases List.mem_cons.1 hk' with rfl | hk'
      · refine ⟨o, K, ho, hK, fun i' hi g hg => hob i' hi g fun t ht => ?_, fun d hd => ?_⟩
        · have hkt := hg t ht
          have hne : ∀ k'' ∈ r, dstIs all k'' t = false := by
            intro k'' hk''
            have h5 := List.all_eq_true.1 (List.all_eq_true.1 hlook t ht) k'' (List.mem_range.2 (okHead_lt r _ hok.2 k'' hk''))
            cases hx : dstIs all k'' t with
            | false => rfl
            | true =>
              have hin : r.contains k'' = true := by simpa using hk''
              rw [hx, hin] at h5
              simp only [Bool.not_true, Bool.false_or, Bool.or_true, Bool.or_false, Bool.and_eq_true] at h5
              have hbef : k'' ∈ before := by simpa using h5.1
              exact absurd (List.mem_append_left _ hbef) (okHead_notin r _ hok.2 k'' hk'')
          rw [h3 t hne] at hkt
          cases hd : o.dst with
          | none => rw [hd] at hkt; exact hkt
          | some d =>
            rw [hd] at hkt hdst
            simp only [updK] at hkt
            simp only [Bool.and_eq_true, Bool.not_eq_true'] at hdst
            rw [if_neg] at hkt
            · exact hkt
            · rintro rfl
              have := hdst.1
              simp [ht] at this
        · rw [hd] at hdst h3
          simp only [Bool.and_eq_true, Bool.not_eq_true'] at hdst
          rw [h3 d (fun k'' hk'' => by simpa using List.all_eq_true.1 hdst.2 k'' hk'')]
          simp [updK]
      · exact h4 k' hk'

/-! ### every order -/
structure JJ (P : Program) (all : List Oper) (n : Nat) (ds : List Deferred) (i0 : Imm) (Ls : List SH) (lc head : List Nat) (κ : Kap) (listed : Array Bool) (a : Act) (w : World) : Prop where
  ex : ∃ (g : Fr) (i' : Imm) (m : Nat) (M : SH), a = ofD n ds g ∧ i0.le i' ∧ Ls[m]? = some M ∧ St i' M w ∧ (∀ (q k : Nat), lc[q]? = some k → (listed.getD k false = true ↔ q < m)) ∧
    ∀ t, (∀ k ∈ head, dstIs all k t = true → listed.getD k false = true) → κ t i' (g t)

theorem wpAny_of_seqI {F : Fence} {ops : Array Oper} {Q : Exit → Act → World → Prop} : ∀ (ts : List Nat) (listed : Array Bool) (os : List Oper) (a : Act) (w : World), ts.map (ops[·]?) = os.map some →
    seqI ops ts listed = true → wpR F P ops Q os a w → wpAnyIn F 0 P .any ops Q ts.length listed a w
  | [], listed, os, a, w, ho, hs, h => by
    cases os with
    | nil =>
      have h0 : Region.ready .any ops listed = [] := by simpa [seqI] using hs
      exact And.intro h0 h
    | cons _ _ => cases ho
  | t :: ts, listed, os, a, w, ho, hs, h => by
    cases os with
    | nil => cases ho
    | cons o os =>
      simp only [List.map_cons, List.cons.injEq] at ho
      simp only [seqI, Bool.and_eq_true, decide_eq_true_eq] at hs
      refine ⟨fun h0 => (by rw [hs.1] at h0; cases h0), fun j hj => ?_⟩
      rw [hs.1] at hj
      have : j = t := by simpa using hj
      subst this
      unfold wpOpIn
      simp only [ho.1]
      simp only [wpR] at h
      split at h
      · rename_i hw; rw [if_pos hw]; exact Oper.wpIn_mono (fun a w => wpAny_of_seqI ts _ os a w ho.2 hs.2) h
      · rename_i hw; rw [if_neg hw]; exact ⟨h.1, wpAny_of_seqI ts _ os _ w ho.2 hs.2 h.2⟩

theorem okHead_spec {t1 : Option Nat} : ∀ (r b : List Nat), okHead all t1 b r = true → ∀ (pre : List Nat) (k : Nat) (post : List Nat), r = pre ++ k :: post → okOp all k (b ++ pre) post t1 = true := by
  intro r
  induction r with
  | nil => intro b _ pre k post h; cases pre <;> cases h
  | cons y r ih =>
    intro b hb pre k post h
    simp only [okHead, Bool.and_eq_true] at hb
    cases pre with
    | nil => simp only [List.nil_append, List.cons.injEq] at h; obtain ⟨rfl, rfl⟩ := h; simpa using hb.1
    | cons z pre =>
      simp only [List.cons_append, List.cons.injEq] at h
      obtain ⟨rfl, h⟩ := h
      have := ih _ hb.2 pre k post h
      simpa using this
theorem okOp_pre {k : Nat} {b l : List Nat} {t1 : Option Nat} (h : okOp all k b l t1 = true) : ∃ o, all[k]? = some o ∧
    (∀ t ∈ o.looksAt all.toArray, ∀ j, j < all.length → j ∈ b ∨ j = k ∨ j ∈ l → dstIs all j t = true → waits all k j = true) ∧
    (∀ e ∈ o.after, Region.binds .any e = true → e.on ∈ b) ∧ (∀ t, t1 = some t → waits all t k = true ∨ ∃ j ∈ l, waits all j k = true) := by
  unfold okOp at h
  split at h
  · rename_i o ho
    simp only [Bool.and_eq_true] at h
    obtain ⟨⟨⟨⟨h1, h2⟩, h3⟩, _⟩, h5⟩ := h
    refine ⟨o, ho, fun t ht j hj hin hd => ?_, fun e he hb => ?_, fun t ht => ?_⟩
    · have := List.all_eq_true.1 (List.all_eq_true.1 h1 t ht) j (List.mem_range.2 hj)
      by_cases hjk : j = k
      · subst hjk
        exfalso
        unfold dstIs at hd
        simp only [ho] at hd
        cases hod : o.dst with
        | none => rw [hod] at hd; cases hd
        | some d =>
          rw [hod] at hd h2
          have : d = t := Nat.eq_of_beq_eq_true hd
          subst this
          simp [ht] at h2
      have hc : (b.contains j || l.contains j) = true := by
        rcases hin with h | h | h
        · simp [h]
        · exact absurd h hjk
        · simp [h]
      rw [hd, hc] at this
      simp only [Bool.not_true, Bool.false_or, Bool.or_false, Bool.and_eq_true] at this
      exact this.2
    · have := List.all_eq_true.1 h3 e (by simpa using he)
      rw [hb] at this
      simpa using this
    · subst ht
      simp only [Bool.or_eq_true, List.any_eq_true] at h5
      exact h5
  · cases h

theorem okChain_waits : ∀ (l : List Nat), okChain all l = true → ∀ (q a b : Nat), l[q]? = some a → l[q + 1]? = some b → waits all b a = true
  | [], _, q, a, b, h, _ => by cases h
  | [x], _, q, a, b, h, h' => by cases q <;> cases h'
  | x :: y :: l, hc, q, a, b, h, h' => by
    simp only [okChain, Bool.and_eq_true] at hc
    cases q with
    | zero => cases h; cases h'; exact hc.1
    | succ q => exact okChain_waits (y :: l) hc.2 q a b (by simpa using h) (by simpa using h')

/-- the walk over every order -/
theorem JJ.walk {F : Fence} (hF : Wd F) {ds : List Deferred} {head tail : List Nat} {κ : Kap} {Q : Exit → Act → World → Prop} {tops : List Oper} (hok : rgOk all head tail lc = true) (hlen : Ls.length = lc.length + 1)
    (htops : tail.map (all.toArray[·]?) = tops.map some)
    (hmono : ∀ t, Mono (κ t)) (hob : ∀ k ∈ head, ∃ o K, all[k]? = some o ∧ Mono K ∧ Ob P all n i0 Ls lc k o κ K ∧ (∀ d, o.dst = some d → κ d = K))
    (hend : ∀ g i' M w, i0.le i' → Ls[lc.length]? = some M → St i' M w → (∀ t, κ t i' (g t)) → wpR F P all.toArray Q tops (ofD n ds g) w) :
    ∀ (fuel : Nat) (listed : Array Bool) (a : Act) (w : World), listed.size = all.length → (∀ t ∈ tail, listed.getD t false = false) →
      (∀ k o, all[k]? = some o → listed.getD k false = true → ∀ e ∈ o.after, Region.binds .any e = true → listed.getD e.on false = true) →
      fuel = (head.filter fun k => !listed.getD k false).length + tail.length → JJ P all n ds i0 Ls lc head κ listed a w → wpAnyIn F 0 P .any all.toArray Q fuel listed a w := by
  simp only [rgOk, Bool.and_eq_true] at hok
  obtain ⟨⟨⟨⟨⟨hhead, hct⟩, hcl⟩, hcov⟩, hlc⟩, hseq⟩ := hok
  have hhl := okHead_lt _ _ hhead
  have cov : ∀ k, k < all.length → (k ∈ head ∧ k ∉ tail) ∨ (k ∉ head ∧ k ∈ tail) := by
    intro k hk
    have := List.all_eq_true.1 hcov k (List.mem_range.2 hk)
    simpa using this
  intro fuel
  induction fuel with
  | zero =>
    intro listed a w hsz htl hcl2 hf hJ
    have htn : tail = [] := List.length_eq_zero_iff.1 (by omega)
    have hall : ∀ k ∈ head, listed.getD k false = true := by
      intro k hk
      cases hx : listed.getD k false with
      | true => rfl
      | false =>
        have : k ∈ head.filter fun k => !listed.getD k false := List.mem_filter.2 ⟨hk, by simp [hx]⟩
        rw [List.length_eq_zero_iff.1 (show (head.filter fun k => !listed.getD k false).length = 0 by omega)] at this
        cases this
    have hL : listed = headArr all head := by
      apply Array.ext
      · simp [headArr, hsz]
      · intro j h1 h2
        have hj : j < all.length := by omega
        rcases cov j hj with ⟨h3, h4⟩ | ⟨h3, h4⟩
        · have := hall j h3
          simp [h1] at this
          simp [headArr, this, h3]
        · have := htl j h4
          simp [h1] at this
          simp [headArr, this, h3]
    obtain ⟨g, i', m, M, rfl, hi, hM, hs, hm, hκ⟩ := hJ.ex
    have hmM : m = lc.length := by
      have h1 : m < Ls.length := (List.getElem?_eq_some_iff.1 hM).1
      rcases Nat.lt_or_ge m lc.length with h | h
      · have h2 := hm m lc[m] (List.getElem?_eq_getElem h)
        have h3 := hall lc[m] (by simpa using List.all_eq_true.1 hlc lc[m] (List.getElem_mem h))
        have := h2.1 h3; omega
      · omega
    subst hmM
    rw [hL]
    subst htn
    exact wpAny_of_seqI [] _ tops _ _ htops hseq (hend g i' M w hi hM hs fun t => hκ t fun k hk _ => hall k hk)
  | succ fuel ih =>
    intro listed a w hsz htl hcl2 hf hJ
    by_cases hall : ∀ k ∈ head, listed.getD k false = true
    · have hL : listed = headArr all head := by
        apply Array.ext
        · simp [headArr, hsz]
        · intro j h1 h2
          have hj : j < all.length := by omega
          rcases cov j hj with ⟨h3, h4⟩ | ⟨h3, h4⟩
          · have := hall j h3
            simp [h1] at this
            simp [headArr, this, h3]
          · have := htl j h4
            simp [h1] at this
            simp [headArr, this, h3]
      obtain ⟨g, i', m, M, rfl, hi, hM, hs, hm, hκ⟩ := hJ.ex
      have hmM : m = lc.length := by
        have h1 : m < Ls.length := (List.getElem?_eq_some_iff.1 hM).1
        rcases Nat.lt_or_ge m lc.length with h | h
        · have h2 := hm m lc[m] (List.getElem?_eq_getElem h)
          have h3 := hall lc[m] (by simpa using List.all_eq_true.1 hlc lc[m] (List.getElem_mem h))
          have := h2.1 h3; omega
        · omega
      subst hmM
      have hfil : (head.filter fun k => !listed.getD k false).length = 0 := by
        rw [List.length_eq_zero_iff, List.filter_eq_nil_iff]
        intro k hk; simp only [hall k hk]; decide
      rw [show fuel + 1 = tail.length by omega, hL]
      exact wpAny_of_seqI tail _ tops _ _ htops hseq (hend g i' M w hi hM hs fun t => hκ t fun k hk _ => hall k hk)
    · -- some head op is not listed
      have hex : ∃ k, k ∈ head ∧ listed.getD k false = false := by
        rcases Classical.em (∃ k, k ∈ head ∧ listed.getD k false = false) with h | h
        · exact h
        · exact absurd (fun k hk => by cases hx : listed.getD k false with | true => rfl | false => exact absurd ⟨k, hk, hx⟩ h) hall
      -- the first one in the head's order is ready
      have first : ∀ (r pre : List Nat), head = pre ++ r → (∀ k ∈ pre, listed.getD k false = true) → (∃ k ∈ r, listed.getD k false = false) → ∃ pre k post, head = pre ++ k :: post ∧ (∀ j ∈ pre, listed.getD j false = true) ∧ listed.getD k false = false := by
        intro r
        induction r with
        | nil => intro pre _ _ h; obtain ⟨k, hk, _⟩ := h; cases hk
        | cons y r ih2 =>
          intro pre hp hpre hx
          cases hy : listed.getD y false with
          | false => exact ⟨pre, y, r, hp, hpre, hy⟩
          | true =>
            refine ih2 (pre ++ [y]) (by simp [hp]) (fun k hk => ?_) ?_
            · rcases List.mem_append.1 hk with h | h
              · exact hpre k h
              · rw [List.mem_singleton.1 h]; exact hy
            · obtain ⟨k, hk, hkf⟩ := hx
              rcases List.mem_cons.1 hk with rfl | hk
              · rw [hy] at hkf; cases hkf
              · exact ⟨k, hk, hkf⟩
      have getDt : ∀ k, k < all.length → listed.getD k false = false → listed.getD k true = false := fun k hk h => getD_in (by omega) h
      have hne : Region.ready .any all.toArray listed ≠ [] := by
        obtain ⟨pre, k, post, hp, hpre, hk⟩ := first head [] rfl (fun _ h => by cases h) (by obtain ⟨k, h1, h2⟩ := hex; exact ⟨k, h1, h2⟩)
        obtain ⟨o, ho, _, hedge, _⟩ := okOp_pre (okHead_spec _ _ hhead pre k post hp)
        have hr : k ∈ Region.ready .any all.toArray listed := by
          refine mem_ready.2 ⟨getDt k (List.getElem?_eq_some_iff.1 ho).1 hk, o, by simpa using ho, fun e he hb => hpre _ (by simpa using hedge e he hb)⟩
        intro h0; rw [h0] at hr; cases hr
      refine ⟨fun h0 => absurd h0 hne, fun j hj => ?_⟩
      obtain ⟨hjun, oj, hoj, hpreds⟩ := mem_ready.1 hj
      have hoj' : all[j]? = some oj := by simpa using hoj
      have hjl : j < all.length := (List.getElem?_eq_some_iff.1 hoj').1
      have hjf : listed.getD j false = false := getD_both hjun
      rcases cov j hjl with ⟨hjh, hjt⟩ | ⟨hjh, hjt⟩
      · -- an operation of the head
        obtain ⟨o, K, ho, hK, hO, hκd⟩ := hob j hjh
        have : oj = o := by rw [hoj'] at ho; exact Option.some.inj ho
        subst this
        obtain ⟨pre, post, hp⟩ := List.append_of_mem hjh
        obtain ⟨o', ho', hlooks, _, _⟩ := okOp_pre (okHead_spec _ _ hhead pre j post hp)
        have : o' = oj := by rw [hoj'] at ho'; exact (Option.some.inj ho').symm
        subst this
        obtain ⟨g, i', m, M, rfl, hi, hM, hs, hm, hκ⟩ := hJ.ex
        have hfacts : ∀ t ∈ o'.looksAt all.toArray, κ t i' (g t) := by
          intro t ht
          refine hκ t fun k hk hd => ?_
          have hw := hlooks t ht k (hhl k hk) (by rw [hp] at hk; simpa using hk) hd
          obtain ⟨o2, ho2, e, he, hb, hon⟩ := waits_spec hw
          have : o2 = o' := by rw [hoj'] at ho2; exact (Option.some.inj ho2).symm
          subst this
          rw [← hon]; exact hpreds e he hb
        have hob1 := hO i' hi g hfacts
        have hsz' : (listed.setIfInBounds j true).size = all.length := by simp [hsz]
        have htl' : ∀ t ∈ tail, (listed.setIfInBounds j true).getD t false = false := by
          intro t ht
          rw [getD_set_ne false (by rintro rfl; exact hjt ht)]; exact htl t ht
        have hjset : (listed.setIfInBounds j true).getD j false = true := by
          have : j < listed.size := by omega
          simp [this]
        have hcl' : ∀ k o, all[k]? = some o → (listed.setIfInBounds j true).getD k false = true → ∀ e ∈ o.after, Region.binds .any e = true → (listed.setIfInBounds j true).getD e.on false = true := by
          intro k o hk hl e he hb
          by_cases hjk : j = k
          · subst hjk
            have : o = o' := by rw [hoj'] at hk; exact (Option.some.inj hk).symm
            subst this
            exact getD_set_true (hpreds e he hb)
          · rw [getD_set_ne false hjk] at hl
            exact getD_set_true (hcl2 k o hk hl e he hb)
        have hfuel : fuel = (head.filter fun k => !(listed.setIfInBounds j true).getD k false).length + tail.length := by
          have hnd : (head.filter fun k => !listed.getD k false).length = (head.filter fun k => !(listed.setIfInBounds j true).getD k false).length + 1 := by
            have hjpre : j ∉ pre := by
              have hsp := okHead_spec _ _ hhead pre j post hp
              unfold okOp at hsp
              split at hsp
              · simp only [Bool.and_eq_true, Bool.not_eq_true'] at hsp
                have := hsp.1.2
                simpa using this
              · cases hsp
            have hjpost : j ∉ post := by
              intro hin
              obtain ⟨p1, p2, hpp⟩ := List.append_of_mem hin
              have hsp := okHead_spec _ _ hhead (pre ++ j :: p1) j p2 (by rw [hp, hpp]; simp)
              unfold okOp at hsp
              split at hsp
              · simp only [Bool.and_eq_true, Bool.not_eq_true'] at hsp
                have := hsp.1.2
                simp at this
              · cases hsp
            have same : ∀ l : List Nat, j ∉ l → (l.filter fun k => !(listed.setIfInBounds j true).getD k false) = l.filter fun k => !listed.getD k false := by
              intro l hl
              apply List.filter_congr
              intro k hk
              rw [getD_set_ne false (by rintro rfl; exact hl hk)]
            rw [hp, List.filter_append, List.filter_append, List.filter_cons, List.filter_cons, same pre hjpre, same post hjpost]
            simp only [hjf, hjset]
            simp
            omega
          omega
        have next : ∀ (v : Value) (i'' : Imm) (w' : World) (m' : Nat) (M' : SH), i'.le i'' → Ls[m']? = some M' → St i'' M' w' → (∀ (q k : Nat), lc[q]? = some k → ((listed.setIfInBounds j true).getD k false = true ↔ q < m')) → K i'' v →
            wpAnyIn F 0 P .any all.toArray Q fuel (listed.setIfInBounds j true) (ofD n ds (updO g o'.dst v)) w' := by
          intro v i'' w' m' M' hi' hM' hs' hm' hKv
          refine ih _ _ _ hsz' htl' hcl' hfuel ⟨_, i'', m', M', rfl, hi.trans hi', hM', hs', hm', fun t ht => ?_⟩
          cases hd : o'.dst with
          | none =>
            simp only [updO]
            refine hmono t _ _ hi' _ (hκ t fun k hk hdk => ?_)
            have := ht k hk hdk
            rw [getD_set_ne false] at this
            · exact this
            · rintro rfl
              simp [dstIs, hoj', hd] at hdk
          | some d =>
            simp only [updO]
            by_cases htd : t = d
            · subst htd; rw [upd_same, hκd t hd]; exact hKv
            · rw [upd_ne _ _ htd]
              refine hmono t _ _ hi' _ (hκ t fun k hk hdk => ?_)
              have := ht k hk hdk
              rw [getD_set_ne false] at this
              · exact this
              · rintro rfl
                simp only [dstIs, hoj', hd] at hdk
                exact htd (Nat.eq_of_beq_eq_true hdk).symm
        unfold wpOpIn
        simp only [hoj]
        rw [gok_eq]
        by_cases hgk : gok n g all o' = true
        · rw [if_pos hgk] at hob1 ⊢
          by_cases hjlc : j ∈ lc
          · obtain ⟨q, hq⟩ := List.mem_iff_getElem?.1 hjlc
            -- just q calls of the chain are listed
            have hql : q < lc.length := (List.getElem?_eq_some_iff.1 hq).1
            have hqm : q = m := by
              have h1 : ¬ q < m := fun h => by have := (hm q j hq).2 h; rw [hjf] at this; cases this
              have h2 : ¬ m < q := by
                intro h
                have hq1l : q - 1 < lc.length := by omega
                have hq1 : lc[q - 1]? = some lc[q - 1] := List.getElem?_eq_getElem hq1l
                have hw := okChain_waits _ hcl (q - 1) lc[q - 1] j hq1 (by rw [show q - 1 + 1 = q by omega]; exact hq)
                obtain ⟨o2, ho2, e, he, hb, hon⟩ := waits_spec hw
                have : o2 = o' := by rw [hoj'] at ho2; exact (Option.some.inj ho2).symm
                subst this
                have := hpreds e he hb
                rw [hon] at this
                have := (hm (q - 1) _ hq1).1 this
                omega
              omega
            subst hqm
            have hq2 : Ls[q + 1]? = some Ls[q + 1] := List.getElem?_eq_getElem (by omega)
            refine (hob1.2 q hq M _ hM hq2).use hF ds w hs _ _ fun v i'' L'' w' hi' hs' ⟨hL'', hKv⟩ => ?_
            subst hL''
            refine next v i'' w' (q + 1) _ hi' hq2 hs' (fun q' k' hq' => ?_) hKv
            by_cases hkj : j = k'
            · subst hkj
              have : q' = q := by
                rcases Nat.lt_trichotomy q' q with h | h | h
                · exact absurd ((hm q' j hq').2 h) (by rw [hjf]; decide)
                · exact h
                · -- j stands twice in the chain: then it waits for what waits for it; the listing tells them apart
                  exact absurd h (by
                    intro h
                    have hq1l : q' - 1 < lc.length := by have := (List.getElem?_eq_some_iff.1 hq').1; omega
                    have hq1 : lc[q' - 1]? = some lc[q' - 1] := List.getElem?_eq_getElem hq1l
                    have hw := okChain_waits _ hcl (q' - 1) lc[q' - 1] j hq1 (by rw [show q' - 1 + 1 = q' by omega]; exact hq')
                    obtain ⟨o2, ho2, e, he, hb, hon⟩ := waits_spec hw
                    have : o2 = o' := by rw [hoj'] at ho2; exact (Option.some.inj ho2).symm
                    subst this
                    have := hpreds e he hb
                    rw [hon] at this
                    have := (hm (q' - 1) _ hq1).1 this
                    omega)
              subst this
              exact ⟨fun _ => by omega, fun _ => hjset⟩
            · rw [getD_set_ne false hkj, hm q' k' hq']
              constructor
              · intro h; omega
              · intro h
                have : q' ≠ q := by rintro rfl; rw [hq] at hq'; exact hkj (Option.some.inj hq')
                omega
          · refine (hob1.1 hjlc m M hM (fun q' x hq' hx => by
              cases hw : waits all x j with
              | false => rfl
              | true =>
                obtain ⟨ox, hox, e, he, hb, hon⟩ := waits_spec hw
                have := hcl2 x ox hox ((hm q' x hx).2 hq') e he hb
                rw [hon, hjf] at this
                cases this)).use hF ds w hs _ _ fun v i'' L'' w' hi' hs' ⟨hL'', hKv⟩ => ?_
            subst hL''
            refine next v i'' w' m _ hi' hM hs' (fun q' k' hq' => ?_) hKv
            have : j ≠ k' := by rintro rfl; exact hjlc (List.mem_of_getElem? hq')
            rw [getD_set_ne false this]
            exact hm q' k' hq'
        · rw [if_neg hgk] at hob1 ⊢
          rw [ofD_put]
          refine ⟨fun f' _ => hF.fn f', next undef i' w m M (Imm.le.refl i') hM hs (fun q' k' hq' => ?_) hob1.1⟩
          have : j ≠ k' := by rintro rfl; exact hob1.2 (List.mem_of_getElem? hq')
          rw [getD_set_ne false this]
          exact hm q' k' hq'
      · -- an operation of the tail is not ready yet
        exfalso
        obtain ⟨q, hq⟩ := List.mem_iff_getElem?.1 hjt
        cases q with
        | succ q =>
          have hqt : q < tail.length := by have := (List.getElem?_eq_some_iff.1 hq).1; omega
          have hq1 : tail[q]? = some tail[q] := List.getElem?_eq_getElem hqt
          have hw := okChain_waits _ hct q tail[q] j hq1 hq
          obtain ⟨o2, ho2, e, he, hb, hon⟩ := waits_spec hw
          have : o2 = oj := by rw [hoj'] at ho2; exact (Option.some.inj ho2).symm
          subst this
          have h1 := hpreds e he hb
          rw [hon, htl tail[q] (List.mem_of_getElem? hq1)] at h1
          cases h1
        | zero =>
          have ht1 : tail.head? = some j := by rw [List.head?_eq_getElem?]; exact hq
          -- every op of the head is listed
          have all1 : ∀ (d : Nat) (pre : List Nat) (k : Nat) (post : List Nat), head = pre ++ k :: post → post.length = d → listed.getD k false = true := by
            intro d
            induction d using Nat.strongRecOn with
            | _ d ih3 =>
              intro pre k post hp hd
              obtain ⟨o, ho, _, _, h5⟩ := okOp_pre (okHead_spec _ _ hhead pre k post hp)
              rcases h5 j ht1 with hw | ⟨k2, hk2, hw⟩
              · obtain ⟨o2, ho2, e, he, hb, hon⟩ := waits_spec hw
                have : o2 = oj := by rw [hoj'] at ho2; exact (Option.some.inj ho2).symm
                subst this
                rw [← hon]; exact hpreds e he hb
              · obtain ⟨p1, p2, hpp⟩ := List.append_of_mem hk2
                have h6 := ih3 p2.length (by rw [← hd, hpp]; simp; omega) (pre ++ k :: p1) k2 p2 (by rw [hp, hpp]; simp) rfl
                obtain ⟨o2, ho2, e, he, hb, hon⟩ := waits_spec hw
                rw [← hon]; exact hcl2 k2 o2 ho2 h6 e he hb
          obtain ⟨k, hk, hkf⟩ := hex
          obtain ⟨pre, post, hp⟩ := List.append_of_mem hk
          have := all1 post.length pre k post hp rfl
          rw [hkf] at this; cases this
end

/-! ### how it is used -/
def lookF : List (Nat × (Imm → Value → Prop)) → Nat → Option (Imm → Value → Prop)
  | [], _ => none
  | (s, K) :: F, t => bif Nat.beq t s then some K else lookF F t
/-- slots in F hold some value of which a fact is known; all others what f says -/
def kap (f : Fr) (F : List (Nat × (Imm → Value → Prop))) : Kap := fun t i v =>
  match lookF F t with
  | some K => K i v
  | none => v = f t
/-- one obligation an operation, in an order of ours; 'F': the slots of which a fact alone is known -/
@[irreducible] def GS (P : Program) (all : List Oper) (n : Nat) (i0 : Imm) (Ls : List SH) (lc : List Nat) (Kont : Kap → Prop) (r : List Nat) (f : Fr) (F : List (Nat × (Imm → Value → Prop))) : Prop :=
  RG0 P all n i0 Ls lc Kont r (kap f F)
def kq : List (Nat × (Imm → Value → Prop)) → Fr → Imm → (Fr → Prop) → Prop
  | [], f, _, R => R f
  | (t, K) :: F, f, i, R => ∀ v, K i v → kq F (upd f t v) i R
def nodupF : List (Nat × (Imm → Value → Prop)) → Bool
  | [] => true
  | (t, _) :: F => (lookF F t).isNone && nodupF F
theorem kq_use : ∀ (F : List (Nat × (Imm → Value → Prop))) (f g : Fr) (i : Imm) (R : Fr → Prop), nodupF F = true → kq F f i R → (∀ t, kap f F t i (g t)) → R g
  | [], f, g, i, R, _, h, hg => by
    have : g = f := funext fun t => hg t
    rw [this]; exact h
  | (t, K) :: F, f, g, i, R, hn, h, hg => by
    simp only [nodupF, Bool.and_eq_true] at hn
    have ht := hg t
    have hb : Nat.beq t t = true := Nat.beq_refl t
    simp only [kap, lookF, hb, cond_true] at ht
    refine kq_use F (upd f t (g t)) g i R hn.2 (h (g t) ht) fun s => ?_
    have hs := hg s
    simp only [kap, lookF] at hs ⊢
    by_cases e : s = t
    · subst e
      cases hl : lookF F s with
      | none => simp [upd_same]
      | some K' => rw [hl] at hn; exact absurd hn.1 (by simp)
    · have hb2 : Nat.beq s t = false := by
        cases hx : Nat.beq s t with
        | true => exact absurd (Nat.eq_of_beq_eq_true hx) e
        | false => rfl
      simp only [hb2, cond_false] at hs
      cases hl : lookF F s with
      | none => rw [hl] at hs; simp only at hs ⊢; rw [upd_ne _ _ e]; exact hs
      | some K' => rw [hl] at hs; exact hs

section
variable {P : Program} {all : List Oper} {n : Nat} {i0 : Imm} {Ls : List SH} {lc : List Nat} {Kont : Kap → Prop} {f : Fr} {F : List (Nat × (Imm → Value → Prop))} {r : List Nat} {k : Nat}

theorem kap_mono (hF : ∀ p ∈ F, Mono p.2) (t : Nat) : Mono (kap f F t) := by
  intro i i' hi v hv
  unfold kap at *
  have : ∀ (F : List (Nat × (Imm → Value → Prop))) K, (∀ p ∈ F, Mono p.2) → lookF F t = some K → Mono K := by
    intro F
    induction F with
    | nil => intro K _ h; cases h
    | cons p F ih =>
      intro K h1 h2
      obtain ⟨s, K'⟩ := p
      simp only [lookF] at h2
      cases hx : Nat.beq t s with
      | true => rw [hx] at h2; cases h2; exact h1 (s, K) (List.mem_cons_self ..)
      | false => rw [hx] at h2; exact ih K (fun p hp => h1 p (List.mem_cons_of_mem _ hp)) h2
  split at hv
  · rename_i K hK; exact this F K hF hK i i' hi v hv
  · exact hv

/-- a region that draws: 'head' in an order of ours, 'tail' in the order that is forced; 'lc': the head's operations that turn owned memory, from one of 'Ls' to the next -/
theorem CS.draw {id : Nat} {i : Imm} {L : SH} {Q : Ex → Fr → Imm → SH → Prop} (head tail lc : List Nat) (Ls : List SH) (hm : P.follows .mixedOrders = true) (hok : rgOk all head tail lc = true) (hlen : Ls.length = lc.length + 1) (h0 : Ls[0]? = some L)
    (tops : List Oper) (htops : tail.map (all.toArray[·]?) = tops.map some)
    (h : GS P all n i Ls lc (fun κ => ∀ g i' M, i.le i' → Ls[lc.length]? = some M → (∀ t, κ t i' (g t)) → RS P all n tops g i' M fun f' i' L' => Q .normal f' i' L') head f []) : CS P n (.region id all.toArray true) f i L Q := by
  unfold CS
  intro Fc hFc ds w hw R hR
  refine wpIn_region_any hm ?_
  unfold GS at h
  have hhead : okHead all tail.head? [] head = true := by
    simp only [rgOk, Bool.and_eq_true] at hok
    exact hok.1.1.1.1.1
  obtain ⟨κ, hK, hmo, hsame, hob⟩ := RG0.table head [] (kap f []) h hhead (fun t => kap_mono (fun p hp => by cases hp) t)
  have hrep : ∀ (m j : Nat), (Array.replicate m false).getD j false = false := getD_replicate_false
  have hsub : ∀ k ∈ lc, k ∈ head := by
    simp only [rgOk, Bool.and_eq_true] at hok
    intro k hk
    simpa using List.all_eq_true.1 hok.1.2 k hk
  have hcount : all.length = (head.filter fun k => !(Array.replicate all.length false).getD k false).length + tail.length := by
    have h1 : (head.filter fun k => !(Array.replicate all.length false).getD k false) = head := by
      rw [List.filter_eq_self]
      intro k _; simp only [hrep]; decide
    rw [h1]
    -- head and tail cover the region, each operation once
    simp only [rgOk, Bool.and_eq_true] at hok
    obtain ⟨⟨⟨⟨⟨_, _⟩, _⟩, hcov⟩, _⟩, hseq⟩ := hok
    have htn : ∀ (ts : List Nat) (listed : Array Bool), seqI all.toArray ts listed = true → ts.Nodup ∧ ∀ t ∈ ts, t < all.length ∧ listed.getD t true = false := by
      intro ts
      induction ts with
      | nil => intro _ _; exact ⟨List.nodup_nil, fun t ht => by cases ht⟩
      | cons t ts ih =>
        intro listed hs
        simp only [seqI, Bool.and_eq_true, decide_eq_true_eq] at hs
        have hr : t ∈ Region.ready .any all.toArray listed := by rw [hs.1]; simp
        obtain ⟨h2, o, ho, _⟩ := mem_ready.1 hr
        obtain ⟨i1, i2⟩ := ih _ hs.2
        have htl : t < all.length := by
          have := (Array.getElem?_eq_some_iff.1 ho).1; simpa using this
        refine ⟨List.nodup_cons.2 ⟨fun hin => ?_, i1⟩, fun x hx => ?_⟩
        · have := (i2 t hin).2
          by_cases hsz : t < listed.size
          · simp [hsz] at this
          · simp [hsz] at h2
        · rcases List.mem_cons.1 hx with rfl | hx
          · exact ⟨htl, h2⟩
          · refine ⟨(i2 x hx).1, ?_⟩
            have h3 := (i2 x hx).2
            by_cases hxt : t = x
            · subst hxt; exact h2
            · rwa [getD_set_ne true hxt] at h3
    have hhn : head.Nodup := by
      have : ∀ (r b : List Nat), okHead all tail.head? b r = true → r.Nodup := by
        intro r
        induction r with
        | nil => intro _ _; exact List.nodup_nil
        | cons x r ih =>
          intro b hb
          simp only [okHead, Bool.and_eq_true] at hb
          exact List.nodup_cons.2 ⟨fun hin => okHead_notin _ _ hb.2 x hin (by simp), ih _ hb.2⟩
      exact this head [] hhead
    obtain ⟨t1, t2⟩ := htn tail _ hseq
    have hperm : (head ++ tail).Perm (List.range all.length) := by
      refine (List.perm_ext_iff_of_nodup (List.nodup_append.2 ⟨hhn, t1, fun a ha b hb e => ?_⟩) List.nodup_range).2 fun k => ?_
      · subst e
        have := List.all_eq_true.1 hcov a (List.mem_range.2 (okHead_lt _ _ hhead a ha))
        simp [ha, hb] at this
      · rw [List.mem_append, List.mem_range]
        constructor
        · rintro (hk | hk)
          · exact okHead_lt _ _ hhead k hk
          · exact (t2 k hk).1
        · intro hk
          have := List.all_eq_true.1 hcov k (List.mem_range.2 hk)
          simp at this
          rcases this with h | h
          · exact .inl h.1
          · exact .inr h.2
    have := hperm.length_eq
    simp at this
    omega
  have := JJ.walk hFc (ds := ds) (Q := R) (tops := tops) hok hlen htops hmo hob (fun g i' M w' hi hM hs hκ => by
    have h2 := hK g i' M hi hM hκ
    unfold RS at h2
    exact h2 Fc hFc ds w' hs R fun f' i'' L' w'' hi' hs' q => hR .normal f' i'' L' w'' (hi.trans hi') hs' q) all.length (Array.replicate all.length false) (ofD n ds f) { w with drawn := w.drawn + 1 } (by simp) (fun t _ => hrep _ t)
    (fun k o _ hl => by rw [hrep] at hl; cases hl) hcount
    ⟨f, i, 0, L, rfl, Imm.le.refl i, h0, hw.drew, fun q k hq => by rw [hrep]; simp, fun t ht => by
      rw [hsame t (fun k hk => by
        cases hx : dstIs all k t with
        | false => rfl
        | true => have := ht k hk hx; rw [hrep] at this; cases this)]
      rfl⟩
  simpa using this

def noSel (o : Oper) : Bool := match o.op with | .select _ _ => false | _ => true
theorem noSel_spec {o : Oper} (h : noSel o = true) : ∀ cs b, o.op ≠ .select cs b := by
  intro cs b e; unfold noSel at h; rw [e] at h; cases h
theorem looks_op {all : List Oper} {o : Oper} {t : Nat} (h : .tmp t ∈ o.op.operands) : t ∈ o.looksAt all.toArray := by
  unfold Oper.looksAt
  refine List.mem_append_left _ (List.mem_filterMap.2 ⟨.tmp t, by simpa using h, rfl⟩)
theorem ev_congr {all : List Oper} {o : Oper} {f g : Fr} (h : ∀ t ∈ o.looksAt all.toArray, f t = g t) : ∀ x ∈ o.op.operands, ev n f x = ev n g x := by
  intro x hx
  cases x with
  | tmp t => simp only [ev]; rw [h t (looks_op hx)]
  | _ => rfl
theorem gok_congr {all : List Oper} {o : Oper} {f g : Fr} (h : ∀ t ∈ o.looksAt all.toArray, f t = g t) : gok n f all o = gok n g all o := by
  unfold gok gv
  unfold Oper.looksAt at h
  cases hg : o.guard with
  | none => rfl
  | some p =>
    obtain ⟨j, want⟩ := p
    simp only [hg] at h
    cases hd : (all[j]?).bind (·.dst) with
    | none => simp only [hd]
    | some d =>
      have : f d = g d := h d (List.mem_append_right _ (by simp [hd]))
      simp only [hd, this]

/-- the general step, by stages -/
theorem GS.genE {o : Oper} {F' : List (Nat × (Imm → Value → Prop))} {f' : Fr} (K : Imm → Value → Prop) (hmono : Mono K) (ho : all[k]? = some o)
    (hob : ∀ i', i0.le i' → ∀ g : Fr, (∀ t ∈ o.looksAt all.toArray, kap f F t i' (g t)) → gok n g all o = true ∧
      (k ∉ lc → ∀ (q : Nat) (L' : SH), Ls[q]? = some L' → (∀ (q' j : Nat), q' < q → lc[q']? = some j → waits all j k = false) → OpS P n o g i' L' fun v i'' L'' => L'' = L' ∧ K i'' v) ∧
      (∀ q, lc[q]? = some k → ∀ L' M', Ls[q]? = some L' → Ls[q + 1]? = some M' → OpS P n o g i' L' fun v i'' L'' => L'' = M' ∧ K i'' v))
    (hk : updK (kap f F) o.dst K = kap f' F') (h : GS P all n i0 Ls lc Kont r f' F') : GS P all n i0 Ls lc Kont (k :: r) f F := by
  unfold GS at *
  refine ⟨o, K, ho, hmono, fun i' hi g hg => ?_, by rw [hk]; exact h⟩
  obtain ⟨h1, h2, h3⟩ := hob i' hi g hg
  rw [if_pos h1]
  exact ⟨h2, h3⟩
/-- the general step -/
theorem GS.gen {o : Oper} {F' : List (Nat × (Imm → Value → Prop))} {f' : Fr} (K : Imm → Value → Prop) (hmono : Mono K) (ho : all[k]? = some o)
    (hob : ∀ i', i0.le i' → ∀ g : Fr, (∀ t ∈ o.looksAt all.toArray, kap f F t i' (g t)) → gok n g all o = true ∧
      (k ∉ lc → ∀ L' ∈ Ls, OpS P n o g i' L' fun v i'' L'' => L'' = L' ∧ K i'' v) ∧
      (∀ q, lc[q]? = some k → ∀ L' M', Ls[q]? = some L' → Ls[q + 1]? = some M' → OpS P n o g i' L' fun v i'' L'' => L'' = M' ∧ K i'' v))
    (hk : updK (kap f F) o.dst K = kap f' F') (h : GS P all n i0 Ls lc Kont r f' F') : GS P all n i0 Ls lc Kont (k :: r) f F := by
  exact GS.genE K hmono ho (fun i' hi g hg => ⟨(hob i' hi g hg).1, fun hn _ L' hL' _ => (hob i' hi g hg).2.1 hn L' (List.mem_of_getElem? hL'), (hob i' hi g hg).2.2⟩) hk h
theorem updK_fix {d : Option Nat} {v : Value} (hd : (match d with | some d => (lookF F d).isNone | none => true) = true) : updK (kap f F) d (fun _ u => u = v) = kap (updO f d v) F := by
  cases d with
  | none => rfl
  | some d =>
    funext t
    simp only [updK, updO]
    by_cases e : t = d
    · subst e
      simp only [if_true]
      funext i u
      simp only [kap]
      cases hl : lookF F t with
      | none => simp [upd_same]
      | some K => simp only [hl] at hd; cases hd
    · rw [if_neg e]
      funext i u
      simp only [kap]
      cases hl : lookF F t with
      | none => simp only; rw [upd_ne _ _ e]
      | some K => rfl
theorem updK_fact {d : Nat} {K : Imm → Value → Prop} : updK (kap f F) (some d) K = kap f ((d, K) :: F) := by
  funext t
  simp only [updK]
  by_cases e : t = d
  · subst e
    funext i u
    simp [kap, lookF]
  · rw [if_neg e]
    have hb : Nat.beq t d = false := by
      cases hx : Nat.beq t d with
      | true => exact absurd (Nat.eq_of_beq_eq_true hx) e
      | false => rfl
    funext i u
    simp [kap, lookF, hb]
/-- the slots of F that an operation looks at -/
def freeOf (F : List (Nat × (Imm → Value → Prop))) (l : List Nat) : Bool := l.all fun t => (lookF F t).isNone
theorem free_eq {l : List Nat} {g : Fr} {i' : Imm} (hfr : freeOf F l = true) (hg : ∀ t ∈ l, kap f F t i' (g t)) : ∀ t ∈ l, f t = g t := by
  intro t ht
  have h1 := List.all_eq_true.1 hfr t ht
  have h2 := hg t ht
  unfold kap at h2
  cases hl : lookF F t with
  | none => rw [hl] at h2; exact h2.symm
  | some K => rw [hl] at h1; cases h1
def dstFree (F : List (Nat × (Imm → Value → Prop))) (d : Option Nat) : Bool := match d with | some d => (lookF F d).isNone | none => true

/-- one value, in every state -/
theorem GS.fix {o : Oper} {v : Value} (ho : all[k]? = some o) (hs : noSel o = true) (hfr : freeOf F (o.looksAt all.toArray) = true) (hd : dstFree F o.dst = true) (hg : gok n f all o = true) (hlc : lc.contains k = false)
    (hv : ∀ i', i0.le i' → ∀ L' ∈ Ls, LV P n f i' L' o v) (h : GS P all n i0 Ls lc Kont r (updO f o.dst v) F) : GS P all n i0 Ls lc Kont (k :: r) f F := by
  refine GS.gen (fun _ u => u = v) (fun _ _ _ _ h => h) ho (fun i' hi g hgg => ?_) (updK_fix hd) h
  have heq := free_eq hfr hgg
  have hnot : k ∉ lc := by intro hin; have : lc.contains k = true := by simpa using hin
                           rw [this] at hlc; cases hlc
  refine ⟨by rw [← gok_congr heq]; exact hg, fun _ L' hL' => ?_, fun q hq => absurd (List.mem_of_getElem? hq) hnot⟩
  refine OpS.congr (noSel_spec hs) (ev_congr heq) (OpS.value (v := v) (fun w hw => ?_) ⟨rfl, rfl⟩)
  have := hv i' hi L' hL'
  unfold LV at this
  exact this w hw
theorem GS.pv {dst : Option Nat} {op : Op} {ty : TypeId} {pos : String} {aft : Array Edge} {gd : Option (Nat × Bool)} {v : Value} (hv : PV P n f ⟨dst, op, ty, pos, aft, gd⟩ v) (ho : all[k]? = some ⟨dst, op, ty, pos, aft, gd⟩) (hs : noSel ⟨dst, op, ty, pos, aft, gd⟩ = true)
    (hfr : freeOf F (Oper.looksAt all.toArray ⟨dst, op, ty, pos, aft, gd⟩) = true) (hd : dstFree F dst = true) (hg : gok n f all ⟨dst, op, ty, pos, aft, gd⟩ = true) (hlc : lc.contains k = false)
    (h : GS P all n i0 Ls lc Kont r (updO f dst v) F) : GS P all n i0 Ls lc Kont (k :: r) f F :=
  GS.fix ho hs hfr hd hg hlc (fun i' _ L' _ => by unfold LV; unfold PV at hv; exact fun w _ => hv w) h
theorem GS.lv {L : SH} {dst : Option Nat} {op : Op} {ty : TypeId} {pos : String} {aft : Array Edge} {gd : Option (Nat × Bool)} {v : Value} (hv : ∀ i', i0.le i' → LV P n f i' L ⟨dst, op, ty, pos, aft, gd⟩ v) (ho : all[k]? = some ⟨dst, op, ty, pos, aft, gd⟩) (hs : noSel ⟨dst, op, ty, pos, aft, gd⟩ = true)
    (hfr : freeOf F (Oper.looksAt all.toArray ⟨dst, op, ty, pos, aft, gd⟩) = true) (hd : dstFree F dst = true) (hg : gok n f all ⟨dst, op, ty, pos, aft, gd⟩ = true) (hlc : lc.contains k = false)
    (h : GS P all n i0 [L] lc Kont r (updO f dst v) F) : GS P all n i0 [L] lc Kont (k :: r) f F :=
  GS.fix ho hs hfr hd hg hlc (fun i' hi L' hL' => by rw [List.mem_singleton.1 hL']; exact hv i' hi) h
/-- the guard says no -/
theorem GS.skip {o : Oper} (ho : all[k]? = some o) (hfr : freeOf F (o.looksAt all.toArray) = true) (hd : dstFree F o.dst = true) (hg : gok n f all o = false) (hlc : lc.contains k = false)
    (h : GS P all n i0 Ls lc Kont r (updO f o.dst undef) F) : GS P all n i0 Ls lc Kont (k :: r) f F := by
  unfold GS at *
  refine ⟨o, fun _ u => u = undef, ho, fun _ _ _ _ h => h, fun i' hi g hgg => ?_, by rw [updK_fix hd]; exact h⟩
  have heq := free_eq hfr hgg
  rw [if_neg (by rw [← gok_congr heq, hg]; decide)]
  exact ⟨rfl, by intro hin; have : lc.contains k = true := by simpa using hin
                 rw [this] at hlc; cases hlc⟩
/-- some value of which a fact is known: it looks at no slot of F -/
theorem GS.fact0 {L : SH} {o : Oper} {d : Nat} (K : Imm → Value → Prop) (hmono : Mono K) (ho : all[k]? = some o) (hdst : o.dst = some d) (hs : noSel o = true) (hfr : freeOf F (o.looksAt all.toArray) = true) (hg : gok n f all o = true) (hlc : lc.contains k = false)
    (hv : ∀ i', i0.le i' → OpS P n o f i' L fun v i'' L'' => L'' = L ∧ K i'' v) (h : GS P all n i0 [L] lc Kont r f ((d, K) :: F)) : GS P all n i0 [L] lc Kont (k :: r) f F := by
  refine GS.gen K hmono ho (fun i' hi g hgg => ?_) (by rw [hdst]; exact updK_fact) h
  have heq := free_eq hfr hgg
  have hnot : k ∉ lc := by intro hin; have : lc.contains k = true := by simpa using hin
                           rw [this] at hlc; cases hlc
  refine ⟨by rw [← gok_congr heq]; exact hg, fun _ L' hL' => ?_, fun q hq => absurd (List.mem_of_getElem? hq) hnot⟩
  rw [List.mem_singleton.1 hL']
  exact OpS.congr (noSel_spec hs) (ev_congr heq) (hv i' hi)
/-- a call whose value is known: it looks at no slot of F -/
theorem GS.val0 {L : SH} {o : Oper} {v : Value} (ho : all[k]? = some o) (hs : noSel o = true) (hfr : freeOf F (o.looksAt all.toArray) = true) (hd : dstFree F o.dst = true) (hg : gok n f all o = true) (hlc : lc.contains k = false)
    (hv : ∀ i', i0.le i' → OpS P n o f i' L fun u _ L'' => L'' = L ∧ u = v) (h : GS P all n i0 [L] lc Kont r (updO f o.dst v) F) : GS P all n i0 [L] lc Kont (k :: r) f F := by
  refine GS.gen (fun _ u => u = v) (fun _ _ _ _ h => h) ho (fun i' hi g hgg => ?_) (updK_fix hd) h
  have heq := free_eq hfr hgg
  have hnot : k ∉ lc := by intro hin; have : lc.contains k = true := by simpa using hin
                           rw [this] at hlc; cases hlc
  refine ⟨by rw [← gok_congr heq]; exact hg, fun _ L' hL' => ?_, fun q hq => absurd (List.mem_of_getElem? hq) hnot⟩
  rw [List.mem_singleton.1 hL']
  exact OpS.congr (noSel_spec hs) (ev_congr heq) (hv i' hi)
/-- what is known of the slots that an operation looks at, some of them in F -/
def kqs (F : List (Nat × (Imm → Value → Prop))) : List Nat → Fr → Imm → (Fr → Prop) → Prop
  | [], f, _, R => R f
  | t :: ts, f, i, R => match lookF F t with
    | some K => ∀ v, K i v → kqs F ts (upd f t v) i R
    | none => kqs F ts f i R
theorem kqs_use : ∀ (ts : List Nat) (f0 g : Fr) (i : Imm) (R : Fr → Prop), kqs F ts f0 i R → (∀ t ∈ ts, kap f F t i (g t)) → ∃ f1 : Fr, R f1 ∧ (∀ t, (t ∈ ts ∧ (lookF F t).isSome = true → f1 t = g t) ∧ (t ∉ ts ∨ (lookF F t).isNone = true → f1 t = f0 t))
  | [], f0, g, i, R, h, _ => ⟨f0, h, fun t => ⟨fun h => (by cases h.1), fun _ => rfl⟩⟩
  | t :: ts, f0, g, i, R, h, hg => by
    simp only [kqs] at h
    split at h
    · rename_i K hK
      have ht := hg t (List.mem_cons_self ..)
      unfold kap at ht; rw [hK] at ht
      obtain ⟨f1, h1, h2⟩ := kqs_use ts (upd f0 t (g t)) g i R (h (g t) ht) fun s hs => hg s (List.mem_cons_of_mem _ hs)
      refine ⟨f1, h1, fun s => ⟨fun ⟨hs, hl⟩ => ?_, fun hs => ?_⟩⟩
      · by_cases hin : s ∈ ts
        · exact (h2 s).1 ⟨hin, hl⟩
        · rcases List.mem_cons.1 hs with rfl | hs
          · rw [(h2 s).2 (.inl hin), upd_same]
          · exact absurd hs hin
      · have hne : s ≠ t := by
          rintro rfl
          rcases hs with hs | hs
          · exact hs (List.mem_cons_self ..)
          · rw [hK] at hs; cases hs
        rw [(h2 s).2 (hs.imp (fun h h' => h (List.mem_cons_of_mem _ h')) id), upd_ne _ _ hne]
    · rename_i hK
      obtain ⟨f1, h1, h2⟩ := kqs_use ts f0 g i R h fun s hs => hg s (List.mem_cons_of_mem _ hs)
      refine ⟨f1, h1, fun s => ⟨fun ⟨hs, hl⟩ => ?_, fun hs => ?_⟩⟩
      · rcases List.mem_cons.1 hs with rfl | hs
        · rw [hK] at hl; cases hl
        · exact (h2 s).1 ⟨hs, hl⟩
      · exact (h2 s).2 (hs.imp (fun h h' => h (List.mem_cons_of_mem _ h')) id)
theorem kqs_eq {l : List Nat} {g : Fr} {i' : Imm} {R : Fr → Prop} (h : kqs F l f i' R) (hg : ∀ t ∈ l, kap f F t i' (g t)) : ∃ f1, R f1 ∧ ∀ t ∈ l, f1 t = g t := by
  obtain ⟨f1, h1, h2⟩ := kqs_use l f g i' R h hg
  refine ⟨f1, h1, fun t ht => ?_⟩
  cases hl : lookF F t with
  | some K => exact (h2 t).1 ⟨ht, by rw [hl]; rfl⟩
  | none =>
    rw [(h2 t).2 (.inr (by rw [hl]; rfl))]
    have := hg t ht
    unfold kap at this; rw [hl] at this; exact this.symm
/-- it looks at slots of F: their values are given with the facts; its own value is known -/
theorem GS.valF {L : SH} {o : Oper} {v : Value} (ho : all[k]? = some o) (hs : noSel o = true) (hd : dstFree F o.dst = true) (hlc : lc.contains k = false)
    (hv : ∀ i', i0.le i' → kqs F (o.looksAt all.toArray) f i' fun g => gok n g all o = true ∧ OpS P n o g i' L fun u _ L'' => L'' = L ∧ u = v) (h : GS P all n i0 [L] lc Kont r (updO f o.dst v) F) : GS P all n i0 [L] lc Kont (k :: r) f F := by
  refine GS.gen (fun _ u => u = v) (fun _ _ _ _ h => h) ho (fun i' hi g hgg => ?_) (updK_fix hd) h
  obtain ⟨f1, ⟨h1, h2⟩, heq⟩ := kqs_eq (hv i' hi) hgg
  have hnot : k ∉ lc := by intro hin; have : lc.contains k = true := by simpa using hin
                           rw [this] at hlc; cases hlc
  refine ⟨by rw [← gok_congr heq]; exact h1, fun _ L' hL' => ?_, fun q hq => absurd (List.mem_of_getElem? hq) hnot⟩
  rw [List.mem_singleton.1 hL']
  exact OpS.congr (noSel_spec hs) (ev_congr heq) h2
theorem GS.factF {L : SH} {o : Oper} {d : Nat} (K : Imm → Value → Prop) (hmono : Mono K) (ho : all[k]? = some o) (hdst : o.dst = some d) (hs : noSel o = true) (hlc : lc.contains k = false)
    (hv : ∀ i', i0.le i' → kqs F (o.looksAt all.toArray) f i' fun g => gok n g all o = true ∧ OpS P n o g i' L fun u i'' L'' => L'' = L ∧ K i'' u) (h : GS P all n i0 [L] lc Kont r f ((d, K) :: F)) : GS P all n i0 [L] lc Kont (k :: r) f F := by
  refine GS.gen K hmono ho (fun i' hi g hgg => ?_) (by rw [hdst]; exact updK_fact) h
  obtain ⟨f1, ⟨h1, h2⟩, heq⟩ := kqs_eq (hv i' hi) hgg
  have hnot : k ∉ lc := by intro hin; have : lc.contains k = true := by simpa using hin
                           rw [this] at hlc; cases hlc
  refine ⟨by rw [← gok_congr heq]; exact h1, fun _ L' hL' => ?_, fun q hq => absurd (List.mem_of_getElem? hq) hnot⟩
  rw [List.mem_singleton.1 hL']
  exact OpS.congr (noSel_spec hs) (ev_congr heq) h2
/-- an operation that turns owned memory: number q of the chain -/
theorem GS.turn {o : Oper} {d : Nat} (q : Nat) {L' M' : SH} (K : Imm → Value → Prop) (hmono : Mono K) (ho : all[k]? = some o) (hdst : o.dst = some d) (hs : noSel o = true) (hq : lc[q]? = some k) (hnd : lc.Nodup) (h1 : Ls[q]? = some L') (h2 : Ls[q + 1]? = some M')
    (hv : ∀ i', i0.le i' → kqs F (o.looksAt all.toArray) f i' fun g => gok n g all o = true ∧ OpS P n o g i' L' fun u i'' L'' => L'' = M' ∧ K i'' u) (h : GS P all n i0 Ls lc Kont r f ((d, K) :: F)) : GS P all n i0 Ls lc Kont (k :: r) f F := by
  refine GS.gen K hmono ho (fun i' hi g hgg => ?_) (by rw [hdst]; exact updK_fact) h
  obtain ⟨f1, ⟨h3, h4⟩, heq⟩ := kqs_eq (hv i' hi) hgg
  refine ⟨by rw [← gok_congr heq]; exact h3, fun hn => absurd (List.mem_of_getElem? hq) hn, fun q' hq' A B hA hB => ?_⟩
  have : q' = q := by
    have hl : q' < lc.length := (List.getElem?_eq_some_iff.1 hq').1
    exact (List.getElem?_inj hl hnd).1 (hq'.trans hq.symm)
  subst this
  rw [h1] at hA; rw [h2] at hB
  cases hA; cases hB
  exact OpS.congr (noSel_spec hs) (ev_congr heq) h4
/-- a value that is read ahead of the first turn, which waits for it -/
theorem GS.lvE {L' : SH} {c : Nat} {cs : List Nat} {o : Oper} {v : Value} (hv : ∀ i', i0.le i' → LV P n f i' L' o v) (ho : all[k]? = some o) (hs : noSel o = true) (hfr : freeOf F (o.looksAt all.toArray) = true) (hd : dstFree F o.dst = true) (hg : gok n f all o = true) (hlc : lc.contains k = false)
    (hc : lc = c :: cs) (hw : waits all c k = true) (h0 : Ls[0]? = some L') (h : GS P all n i0 Ls lc Kont r (updO f o.dst v) F) : GS P all n i0 Ls lc Kont (k :: r) f F := by
  refine GS.genE (fun _ u => u = v) (fun _ _ _ _ h => h) ho (fun i' hi g hgg => ?_) (updK_fix hd) h
  have heq := free_eq hfr hgg
  have hnot : k ∉ lc := by intro hin; have : lc.contains k = true := by simpa using hin
                           rw [this] at hlc; cases hlc
  refine ⟨by rw [← gok_congr heq]; exact hg, fun _ q M hM hq => ?_, fun q hq => absurd (List.mem_of_getElem? hq) hnot⟩
  have hq0 : q = 0 := by
    cases q with
    | zero => rfl
    | succ q => have := hq 0 c (Nat.succ_pos q) (by rw [hc]; rfl); rw [hw] at this; cases this
  subst hq0
  rw [h0] at hM
  cases hM
  refine OpS.congr (noSel_spec hs) (ev_congr heq) (OpS.value (v := v) (fun w hw => ?_) ⟨rfl, rfl⟩)
  have := hv i' hi
  unfold LV at this
  exact this w hw
/-- a turn without a result -/
theorem GS.turn0 {o : Oper} (q : Nat) {L' M' : SH} (ho : all[k]? = some o) (hdst : o.dst = none) (hs : noSel o = true) (hfr : freeOf F (o.looksAt all.toArray) = true) (hg : gok n f all o = true) (hq : lc[q]? = some k) (hnd : lc.Nodup) (h1 : Ls[q]? = some L') (h2 : Ls[q + 1]? = some M')
    (hv : ∀ i', i0.le i' → OpS P n o f i' L' fun _ _ L'' => L'' = M') (h : GS P all n i0 Ls lc Kont r f F) : GS P all n i0 Ls lc Kont (k :: r) f F := by
  refine GS.gen (fun _ _ => True) (fun _ _ _ _ h => h) ho (fun i' hi g hgg => ?_) (by rw [hdst]; rfl) h
  have heq := free_eq hfr hgg
  refine ⟨by rw [← gok_congr heq]; exact hg, fun hn => absurd (List.mem_of_getElem? hq) hn, fun q' hq' A B hA hB => ?_⟩
  have : q' = q := by
    have hl : q' < lc.length := (List.getElem?_eq_some_iff.1 hq').1
    exact (List.getElem?_inj hl hnd).1 (hq'.trans hq.symm)
  subst this
  rw [h1] at hA; rw [h2] at hB
  cases hA; cases hB
  exact OpS.congr (noSel_spec hs) (ev_congr heq) (OpS.mono (hv i' hi) fun _ _ _ _ h => ⟨h, trivial⟩)
/-- the head is done -/
theorem GS.done {i : Imm} {tops : List Oper} {K : Fr → Imm → SH → Prop} {M : SH} (hn : nodupF F = true) (hM : Ls[lc.length]? = some M)
    (h : ∀ i', i.le i' → kq F f i' fun f' => RS P all n tops f' i' M K) :
    GS P all n i Ls lc (fun κ => ∀ g i' M, i.le i' → Ls[lc.length]? = some M → (∀ t, κ t i' (g t)) → RS P all n tops g i' M K) [] f F := by
  unfold GS
  intro g i' M' hi hM' hg
  rw [hM] at hM'; cases hM'
  exact kq_use F f g i' _ hn (h i' hi) hg
end
end Go.Eng

namespace Go.Eng
open Go
section
variable {P : Program} {all : List Oper} {n : Nat} {i0 : Imm} {Ls : List SH} {lc : List Nat} {Kont : Kap → Prop} {f : Fr} {F : List (Nat × (Imm → Value → Prop))} {r : List Nat} {k : Nat} {dst : Option Nat} {ty : TypeId} {pos : String} {aft : Array Edge} {gd : Option (Nat × Bool)}
  {t t2 : Nat} {x y : Operand} {a b : Int} {kd : IntKind} {p q : ByteArray}
theorem GS.ifLss (hx : ev n f x = .int kd a) (hy : ev n f y = .int kd b) (ho : all[k]? = some ⟨dst, .binOp .lss t x y t2, ty, pos, aft, gd⟩) (hfr : freeOf F (Oper.looksAt all.toArray ⟨dst, .binOp .lss t x y t2, ty, pos, aft, gd⟩) = true) (hd : dstFree F dst = true) (hg : gok n f all ⟨dst, .binOp .lss t x y t2, ty, pos, aft, gd⟩ = true) (hlc : lc.contains k = false)
    (hT : a < b → GS P all n i0 Ls lc Kont r (updO f dst (.bool true)) F) (hF : b ≤ a → GS P all n i0 Ls lc Kont r (updO f dst (.bool false)) F) : GS P all n i0 Ls lc Kont (k :: r) f F := by
  by_cases h : a < b
  · exact GS.pv (PV.lssT hx hy h) ho rfl hfr hd hg hlc (hT h)
  · exact GS.pv (PV.lssF hx hy (by omega)) ho rfl hfr hd hg hlc (hF (by omega))
theorem GS.ifLeq (hx : ev n f x = .int kd a) (hy : ev n f y = .int kd b) (ho : all[k]? = some ⟨dst, .binOp .leq t x y t2, ty, pos, aft, gd⟩) (hfr : freeOf F (Oper.looksAt all.toArray ⟨dst, .binOp .leq t x y t2, ty, pos, aft, gd⟩) = true) (hd : dstFree F dst = true) (hg : gok n f all ⟨dst, .binOp .leq t x y t2, ty, pos, aft, gd⟩ = true) (hlc : lc.contains k = false)
    (hT : a ≤ b → GS P all n i0 Ls lc Kont r (updO f dst (.bool true)) F) (hF : b < a → GS P all n i0 Ls lc Kont r (updO f dst (.bool false)) F) : GS P all n i0 Ls lc Kont (k :: r) f F := by
  by_cases h : a ≤ b
  · exact GS.pv (PV.leqT hx hy h) ho rfl hfr hd hg hlc (hT h)
  · exact GS.pv (PV.leqF hx hy (by omega)) ho rfl hfr hd hg hlc (hF (by omega))
theorem GS.ifGtr (hx : ev n f x = .int kd a) (hy : ev n f y = .int kd b) (ho : all[k]? = some ⟨dst, .binOp .gtr t x y t2, ty, pos, aft, gd⟩) (hfr : freeOf F (Oper.looksAt all.toArray ⟨dst, .binOp .gtr t x y t2, ty, pos, aft, gd⟩) = true) (hd : dstFree F dst = true) (hg : gok n f all ⟨dst, .binOp .gtr t x y t2, ty, pos, aft, gd⟩ = true) (hlc : lc.contains k = false)
    (hT : b < a → GS P all n i0 Ls lc Kont r (updO f dst (.bool true)) F) (hF : a ≤ b → GS P all n i0 Ls lc Kont r (updO f dst (.bool false)) F) : GS P all n i0 Ls lc Kont (k :: r) f F := by
  by_cases h : b < a
  · exact GS.pv (PV.gtrT hx hy h) ho rfl hfr hd hg hlc (hT h)
  · exact GS.pv (PV.gtrF hx hy (by omega)) ho rfl hfr hd hg hlc (hF (by omega))
theorem GS.ifGeq (hx : ev n f x = .int kd a) (hy : ev n f y = .int kd b) (ho : all[k]? = some ⟨dst, .binOp .geq t x y t2, ty, pos, aft, gd⟩) (hfr : freeOf F (Oper.looksAt all.toArray ⟨dst, .binOp .geq t x y t2, ty, pos, aft, gd⟩) = true) (hd : dstFree F dst = true) (hg : gok n f all ⟨dst, .binOp .geq t x y t2, ty, pos, aft, gd⟩ = true) (hlc : lc.contains k = false)
    (hT : b ≤ a → GS P all n i0 Ls lc Kont r (updO f dst (.bool true)) F) (hF : a < b → GS P all n i0 Ls lc Kont r (updO f dst (.bool false)) F) : GS P all n i0 Ls lc Kont (k :: r) f F := by
  by_cases h : b ≤ a
  · exact GS.pv (PV.geqT hx hy h) ho rfl hfr hd hg hlc (hT h)
  · exact GS.pv (PV.geqF hx hy (by omega)) ho rfl hfr hd hg hlc (hF (by omega))
theorem GS.ifEql (hx : ev n f x = .int kd a) (hy : ev n f y = .int kd b) (ho : all[k]? = some ⟨dst, .binOp .eql t x y t2, ty, pos, aft, gd⟩) (hfr : freeOf F (Oper.looksAt all.toArray ⟨dst, .binOp .eql t x y t2, ty, pos, aft, gd⟩) = true) (hd : dstFree F dst = true) (hg : gok n f all ⟨dst, .binOp .eql t x y t2, ty, pos, aft, gd⟩ = true) (hlc : lc.contains k = false)
    (hT : a = b → GS P all n i0 Ls lc Kont r (updO f dst (.bool true)) F) (hF : a ≠ b → GS P all n i0 Ls lc Kont r (updO f dst (.bool false)) F) : GS P all n i0 Ls lc Kont (k :: r) f F := by
  by_cases h : a = b
  · exact GS.pv (PV.eqlT hx hy h) ho rfl hfr hd hg hlc (hT h)
  · exact GS.pv (PV.eqlF hx hy h) ho rfl hfr hd hg hlc (hF h)
theorem GS.ifNeq (hx : ev n f x = .int kd a) (hy : ev n f y = .int kd b) (ho : all[k]? = some ⟨dst, .binOp .neq t x y t2, ty, pos, aft, gd⟩) (hfr : freeOf F (Oper.looksAt all.toArray ⟨dst, .binOp .neq t x y t2, ty, pos, aft, gd⟩) = true) (hd : dstFree F dst = true) (hg : gok n f all ⟨dst, .binOp .neq t x y t2, ty, pos, aft, gd⟩ = true) (hlc : lc.contains k = false)
    (hT : a ≠ b → GS P all n i0 Ls lc Kont r (updO f dst (.bool true)) F) (hF : a = b → GS P all n i0 Ls lc Kont r (updO f dst (.bool false)) F) : GS P all n i0 Ls lc Kont (k :: r) f F := by
  by_cases h : a = b
  · exact GS.pv (PV.neqF hx hy h) ho rfl hfr hd hg hlc (hF h)
  · exact GS.pv (PV.neqT hx hy h) ho rfl hfr hd hg hlc (hT h)
theorem GS.ifSeql (hx : ev n f x = .string p) (hy : ev n f y = .string q) (ho : all[k]? = some ⟨dst, .binOp .eql t x y t2, ty, pos, aft, gd⟩) (hfr : freeOf F (Oper.looksAt all.toArray ⟨dst, .binOp .eql t x y t2, ty, pos, aft, gd⟩) = true) (hd : dstFree F dst = true) (hg : gok n f all ⟨dst, .binOp .eql t x y t2, ty, pos, aft, gd⟩ = true) (hlc : lc.contains k = false)
    (hT : p.toList = q.toList → GS P all n i0 Ls lc Kont r (updO f dst (.bool true)) F) (hF : p.toList ≠ q.toList → GS P all n i0 Ls lc Kont r (updO f dst (.bool false)) F) : GS P all n i0 Ls lc Kont (k :: r) f F := by
  by_cases h : p.toList = q.toList
  · exact GS.pv (PV.seqlT hx hy h) ho rfl hfr hd hg hlc (hT h)
  · exact GS.pv (PV.seqlF hx hy h) ho rfl hfr hd hg hlc (hF h)
theorem GS.ifSneq (hx : ev n f x = .string p) (hy : ev n f y = .string q) (ho : all[k]? = some ⟨dst, .binOp .neq t x y t2, ty, pos, aft, gd⟩) (hfr : freeOf F (Oper.looksAt all.toArray ⟨dst, .binOp .neq t x y t2, ty, pos, aft, gd⟩) = true) (hd : dstFree F dst = true) (hg : gok n f all ⟨dst, .binOp .neq t x y t2, ty, pos, aft, gd⟩ = true) (hlc : lc.contains k = false)
    (hT : p.toList ≠ q.toList → GS P all n i0 Ls lc Kont r (updO f dst (.bool true)) F) (hF : p.toList = q.toList → GS P all n i0 Ls lc Kont r (updO f dst (.bool false)) F) : GS P all n i0 Ls lc Kont (k :: r) f F := by
  by_cases h : p.toList = q.toList
  · exact GS.pv (PV.sneqF hx hy h) ho rfl hfr hd hg hlc (hF h)
  · exact GS.pv (PV.sneqT hx hy h) ho rfl hfr hd hg hlc (hT h)
end
end Go.Eng
namespace Go.Eng
open Go
def getAll (all : List Oper) : List Nat → Option (List Oper)
  | [] => some []
  | t :: ts => match all[t]? with
    | some o => (match getAll all ts with | some r => some (o :: r) | none => none)
    | none => none
theorem getAll_spec {all : List Oper} : ∀ (ts : List Nat) (r : List Oper), getAll all ts = some r → ts.map (all.toArray[·]?) = r.map some
  | [], r, h => by cases h; rfl
  | t :: ts, r, h => by
    simp only [getAll] at h
    split at h
    · rename_i o ho
      split at h
      · rename_i r' hr
        cases h
        simp [ho]
        simpa using getAll_spec ts r' hr
      · cases h
    · cases h
section
variable {P : Program} {all : List Oper} {n : Nat} {f : Fr}
/-- no operation of the head turns owned memory -/
theorem CS.draw0 {id : Nat} {i : Imm} {L : SH} {Q : Ex → Fr → Imm → SH → Prop} {tops : List Oper} (hm : P.follows .mixedOrders = true) (head tail : List Nat) (hok : rgOk all head tail [] = true) (htops : getAll all tail = some tops)
    (h : GS P all n i [L] [] (fun κ => ∀ g i' M, i.le i' → [L][([] : List Nat).length]? = some M → (∀ t, κ t i' (g t)) → RS P all n tops g i' M fun f' i' L' => Q .normal f' i' L') head f []) : CS P n (.region id all.toArray true) f i L Q :=
  CS.draw head tail [] [L] hm hok rfl rfl tops (getAll_spec tail tops htops) h
end
theorem setX_some {α : Type} : ∀ (l : List α) (k : Nat) (v x : α), l[k]? = some x → setX l k v = some (l.set k v)
  | [], k, v, x, h => by cases h
  | _ :: l, 0, v, x, h => rfl
  | a :: l, k + 1, v, x, h => by
    simp only [setX, setX_some l k v x (by simpa using h), List.set_cons_succ]
end Go.Eng
