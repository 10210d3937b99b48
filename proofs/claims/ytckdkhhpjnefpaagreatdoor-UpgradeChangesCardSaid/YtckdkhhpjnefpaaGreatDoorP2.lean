/- What the proof leans on, part 2. No condition. -/
import Derived.Test.YtckdkhhpjnefpaaGreatDoorP1
import Derived.Deep.AppendSrc
import Derived.Laws.IdiomStrings
import Derived.Laws.RangeString
set_option linter.unusedVariables false
set_option linter.unusedSimpArgs false
namespace Go.Eng
open Go
structure Stage where
 s : List Nat
 m : Imm → List Value → SH → Prop
def Stage.mono (M : Stage) : Prop := ∀ i i', Imm.le i i' → ∀ vs L, M.m i vs L → M.m i' vs L
def stOkS (all : List Oper) (done s : List Nat) : Bool := s.all fun t => (List.range all.length).all fun k => !dstIs all k t || done.contains k
section
variable {P : Program} {all : List Oper} {n : Nat} {i0 : Imm} {Inv : SH → Prop} {lc : List Nat}
def ObFr (P : Program) (all : List Oper) (n : Nat) (i0 : Imm) (Inv : SH → Prop) (o : Oper) (κ : Kap) (K : Imm → Value → Prop) : Prop :=
 ∀ i', i0.le i' → ∀ g : Fr, (∀ t ∈ o.looksAt all.toArray, κ t i' (g t)) → ∀ L', Inv L' →
  (gok n g all o = true ∧ OpS P n o g i' L' fun v i'' L'' => L'' = L' ∧ K i'' v) ∨ (gok n g all o = false ∧ K i' undef)
def ObCh (P : Program) (all : List Oper) (n : Nat) (i0 : Imm) (Inv : SH → Prop) (o : Oper) (κ : Kap) (K : Imm → Value → Prop) (M M' : Stage) : Prop :=
 ∀ i', i0.le i' → ∀ g : Fr, (∀ t ∈ o.looksAt all.toArray, κ t i' (g t)) → ∀ L', Inv L' → M.m i' (M.s.map g) L' →
  gok n g all o = true ∧ OpS P n o g i' L' fun v i'' L'' => Inv L'' ∧ M'.m i'' (M'.s.map (updO g o.dst v)) L'' ∧ K i'' v
def RM0 (P : Program) (all : List Oper) (n : Nat) (i0 : Imm) (Inv : SH → Prop) (lc : List Nat) (Kont : Kap → Stage → Prop) : List Nat → Kap → Nat → Stage → Prop
 | [], κ, q, M => q = lc.length ∧ Kont κ M
 | k :: r, κ, q, M => ∃ o K, all[k]? = some o ∧ Mono K ∧
  ((k ∉ lc ∧ ObFr P all n i0 Inv o κ K ∧ RM0 P all n i0 Inv lc Kont r (updK κ o.dst K) q M) ∨
   (lc[q]? = some k ∧ ∃ M', M'.mono ∧ stOkS all (lc.take (q + 1)) M'.s = true ∧ ObCh P all n i0 Inv o κ K M M' ∧ RM0 P all n i0 Inv lc Kont r (updK κ o.dst K) (q + 1) M'))
def LK (all : List Oper) (post : List Nat) (o : Oper) (κ0 κ' : Kap) (i' : Imm) (g : Fr) : Prop :=
 ∀ t ∈ o.looksAt all.toArray, ((∀ j ∈ post, dstIs all j t = false) → κ' t i' (g t)) ∧ ((∃ j ∈ post, dstIs all j t = true) → κ0 t i' (g t))
def ObFr' (P : Program) (all : List Oper) (n : Nat) (i0 : Imm) (Inv : SH → Prop) (post : List Nat) (o : Oper) (κ0 κ : Kap) (K : Imm → Value → Prop) : Prop :=
 ∀ i', i0.le i' → ∀ g : Fr, LK all post o κ0 κ i' g → ∀ L', Inv L' →
  (gok n g all o = true ∧ OpS P n o g i' L' fun v i'' L'' => L'' = L' ∧ K i'' v) ∨ (gok n g all o = false ∧ K i' undef)
def ObCh' (P : Program) (all : List Oper) (n : Nat) (i0 : Imm) (Inv : SH → Prop) (post : List Nat) (o : Oper) (κ0 κ : Kap) (K : Imm → Value → Prop) (M M' : Stage) : Prop :=
 ∀ i', i0.le i' → ∀ g : Fr, LK all post o κ0 κ i' g → ∀ L', Inv L' → M.m i' (M.s.map g) L' →
  gok n g all o = true ∧ OpS P n o g i' L' fun v i'' L'' => Inv L'' ∧ M'.m i'' (M'.s.map (updO g o.dst v)) L'' ∧ K i'' v
theorem RM0.table {Kont : Kap → Stage → Prop} {t1 : Option Nat} (κ0 : Kap) : ∀ (r before : List Nat) (κ : Kap) (q : Nat) (M : Stage), RM0 P all n i0 Inv lc Kont r κ q M → okHeadW all t1 before r = true → (∀ t, Mono (κ t)) → M.mono → stOkS all (lc.take q) M.s = true → (∀ t, (∀ m ∈ before, dstIs all m t = false) → κ t = κ0 t) →
 ∃ (κ' : Kap) (Ms : Nat → Stage), Ms q = M ∧ Kont κ' (Ms lc.length) ∧ (∀ t, Mono (κ' t)) ∧ (∀ t, (∀ k ∈ r, dstIs all k t = false) → κ' t = κ t) ∧ (∀ q', q ≤ q' → q' ≤ lc.length → (Ms q').mono ∧ stOkS all (lc.take q') (Ms q').s = true) ∧
  ∀ pre k post, r = pre ++ k :: post → ∃ o K, all[k]? = some o ∧ (∀ d, o.dst = some d → κ' d = K) ∧ ((k ∉ lc ∧ ObFr' P all n i0 Inv post o κ0 κ' K) ∨ ∃ q', q ≤ q' ∧ lc[q']? = some k ∧ ObCh' P all n i0 Inv post o κ0 κ' K (Ms q') (Ms (q' + 1))) := by
 intro r
 induction r with
 | nil =>
   intro before κ q M h _ hm hM hs _
   obtain ⟨h1, h2⟩ := h
   subst h1
   exact ⟨κ, fun _ => M, rfl, h2, hm, fun _ _ => rfl, fun q' h1 h2 => (by have : q' = lc.length := by omega
                                                                          subst this; exact ⟨hM, hs⟩), fun pre k post hk => by cases pre <;> cases hk⟩
 | cons k r ih =>
   intro before κ q M h hok hm hM hs hκ0
   obtain ⟨o, K, ho, hK, h⟩ := h
   simp only [okHeadW, Bool.and_eq_true] at hok
   have hm' : ∀ t, Mono (updK κ o.dst K t) := by
    intro t
    cases hd : o.dst with
    | none => simpa [updK] using hm t
    | some d =>
      simp only [updK]
      split
      · exact hK
      · exact hm t
   obtain ⟨o', ho', hlook, _, _⟩ := okOpW_pre hok.1
   rw [ho] at ho'; cases ho'
   have hdst : ∀ d, o.dst = some d → d ∉ o.looksAt all.toArray ∧ ∀ j ∈ r, dstIs all j d = false := by
    intro d hd
    have hop := hok.1
    simp only [okOpW, ho, hd, Bool.and_eq_true, Bool.not_eq_true'] at hop
    refine ⟨fun hin => ?_, fun j hj => by simpa using List.all_eq_true.1 hop.1.1.1.2.2 j hj⟩
    have := hop.1.1.1.2.1
    simp [hin] at this
   have hκ1 : ∀ t, (∀ m ∈ before ++ [k], dstIs all m t = false) → updK κ o.dst K t = κ0 t := by
    intro t ht
    rw [← hκ0 t fun m hm => ht m (List.mem_append_left _ hm)]
    cases hd : o.dst with
    | none => rfl
    | some d =>
      simp only [updK]
      rw [if_neg]
      rintro rfl
      have := ht k (by simp)
      rw [dstIs_of ho hd] at this; cases this
   have key : ∀ κ' : Kap, (∀ t, (∀ k ∈ r, dstIs all k t = false) → κ' t = updK κ o.dst K t) → (∀ t, (∀ k' ∈ k :: r, dstIs all k' t = false) → κ' t = κ t) ∧ (∀ d, o.dst = some d → κ' d = K) ∧
    ∀ i' (g : Fr), LK all r o κ0 κ' i' g → ∀ t ∈ o.looksAt all.toArray, κ t i' (g t) := by
    intro κ' h3
    refine ⟨fun t ht => ?_, fun d hd => ?_, fun i' g hg t ht => ?_⟩
    · rw [h3 t (fun k' hk' => ht k' (List.mem_cons_of_mem _ hk'))]
      cases hd : o.dst with
      | none => rfl
      | some d =>
        simp only [updK]
        rw [if_neg]
        rintro rfl
        have := ht k (List.mem_cons_self ..)
        rw [dstIs_of ho hd] at this; cases this
    · rw [h3 d (hdst d hd).2, hd]
      simp [updK]
    · obtain ⟨hg1, hg2⟩ := hg t ht
      by_cases hw : ∃ j ∈ r, dstIs all j t = true
      · obtain ⟨j, hj, hd⟩ := hw
        rcases hlook t ht j (okHeadW_lt r _ hok.2 j hj) (.inr (.inr hj)) hd with ⟨h1, _⟩ | ⟨_, _, h2⟩
        · exact absurd (List.mem_append_left _ h1) (okHeadW_notin r _ hok.2 j hj)
        · rw [hκ0 t h2]
          exact hg2 ⟨j, hj, hd⟩
      · have hne : ∀ k'' ∈ r, dstIs all k'' t = false := fun k'' hk'' => by
         cases hx : dstIs all k'' t with
         | false => rfl
         | true => exact absurd ⟨k'', hk'', hx⟩ hw
        have hkt := hg1 hne
        rw [h3 t hne] at hkt
        cases hd : o.dst with
        | none => rw [hd] at hkt; exact hkt
        | some d =>
          rw [hd] at hkt
          simp only [updK] at hkt
          rw [if_neg] at hkt
          · exact hkt
          · rintro rfl
            exact (hdst t hd).1 ht
   rcases h with ⟨hn, hob, hr⟩ | ⟨hq, M', hM', hs', hob, hr⟩
   · obtain ⟨κ', Ms, e, h1, h2, h3, h4, h5⟩ := ih (before ++ [k]) _ q M hr hok.2 hm' hM hs hκ1
     obtain ⟨k1, k2, k3⟩ := key κ' h3
     refine ⟨κ', Ms, e, h1, h2, k1, h4, fun pre k' post hk' => ?_⟩
     cases pre with
     | nil =>
       simp only [List.nil_append, List.cons.injEq] at hk'
       obtain ⟨rfl, rfl⟩ := hk'
       exact ⟨o, K, ho, k2, .inl ⟨hn, fun i' hi g hg L' hL' => hob i' hi g (k3 i' g hg) L' hL'⟩⟩
     | cons y pre =>
       simp only [List.cons_append, List.cons.injEq] at hk'
       exact h5 pre k' post hk'.2
   · obtain ⟨κ', Ms, e, h1, h2, h3, h4, h5⟩ := ih (before ++ [k]) _ (q + 1) M' hr hok.2 hm' hM' hs' hκ1
     obtain ⟨k1, k2, k3⟩ := key κ' h3
     have hql : q < lc.length := (List.getElem?_eq_some_iff.1 hq).1
     have hMs : ∀ x, q + 1 ≤ x → (fun y => if y = q then M else Ms y) x = Ms x := fun x hx => if_neg (by omega)
     refine ⟨κ', fun y => if y = q then M else Ms y, if_pos rfl, ?_, h2, k1, fun q' ha hb => ?_, fun pre k' post hk' => ?_⟩
     · rw [hMs _ (by omega)]; exact h1
     · by_cases hqq : q' = q
       · subst hqq; simp only [if_true]; exact ⟨hM, hs⟩
       · simp only [if_neg hqq]; exact h4 q' (by omega) hb
     · cases pre with
       | nil =>
         simp only [List.nil_append, List.cons.injEq] at hk'
         obtain ⟨rfl, rfl⟩ := hk'
         refine ⟨o, K, ho, k2, .inr ⟨q, Nat.le_refl _, hq, ?_⟩⟩
         rw [hMs _ (Nat.le_refl _), e]
         simp only [if_true]
         exact fun i' hi g hg L' hL' hm => hob i' hi g (k3 i' g hg) L' hL' hm
       | cons y pre =>
         simp only [List.cons_append, List.cons.injEq] at hk'
         obtain ⟨o', K', g1, g2, g3⟩ := h5 pre k' post hk'.2
         refine ⟨o', K', g1, g2, g3.imp id ?_⟩
         rintro ⟨q', g4, g5, g6⟩
         refine ⟨q', by omega, g5, ?_⟩
         rw [hMs _ g4, hMs _ (by omega)]
         exact g6
theorem map_upd {f : Fr} {s : List Nat} {d : Nat} {v : Value} (h : d ∉ s) : s.map (upd f d v) = s.map f :=
 List.map_congr_left fun t ht => upd_ne _ _ (fun e => h (e ▸ ht))
theorem stOkS_spec {done s : List Nat} (h : stOkS all done s = true) {t k : Nat} (ht : t ∈ s) (hk : k < all.length) (hd : dstIs all k t = true) : k ∈ done := by
 have := List.all_eq_true.1 (List.all_eq_true.1 h t ht) k (List.mem_range.2 hk)
 rw [hd] at this
 simpa using this
theorem okHeadW_nodup {t1 : Option Nat} : ∀ (r b : List Nat), okHeadW all t1 b r = true → r.Nodup := by
 intro r
 induction r with
 | nil => intro _ _; exact List.nodup_nil
 | cons x r ih =>
   intro b hb
   simp only [okHeadW, Bool.and_eq_true] at hb
   exact List.nodup_cons.2 ⟨fun hin => okHeadW_notin _ _ hb.2 x hin (by simp), ih _ hb.2⟩
@[irreducible] def GM (P : Program) (all : List Oper) (n : Nat) (i0 : Imm) (Inv : SH → Prop) (lc : List Nat) (Kont : Kap → Stage → Prop) (r : List Nat) (f : Fr) (F : List (Nat × (Imm → Value → Prop))) (q : Nat) (M : Stage) : Prop :=
 RM0 P all n i0 Inv lc Kont r (kap f F) q M
theorem CS.drawM {f : Fr} {id : Nat} {i : Imm} {L : SH} {Q : Ex → Fr → Imm → SH → Prop} {tops : List Oper} (hm : P.follows .mixedOrders = true) (head tail lc : List Nat) (Inv : SH → Prop) (M0 : Stage) (hok : (rgOkW all head tail [] && okChain all lc && lc.all (head.contains ·) && stOkS all [] M0.s) = true) (hnd : lc.Nodup) (htops : getAll all tail = some tops)
 (hinv : Inv L) (hmo : M0.mono) (h0 : M0.m i (M0.s.map f) L)
 (h : GM P all n i Inv lc (fun κ M => ∀ g i' L', i.le i' → Inv L' → M.m i' (M.s.map g) L' → (∀ t, κ t i' (g t)) → RS P all n tops g i' L' fun f' i'' L'' => Q .normal f' i'' L'') head f [] 0 M0) : CS P n (.region id all.toArray true) f i L Q := by
 simp only [Bool.and_eq_true] at hok
 obtain ⟨⟨⟨hrg, hch⟩, hsub⟩, hst0⟩ := hok
 have hsub : ∀ k ∈ lc, k ∈ head := fun k hk => by simpa using List.all_eq_true.1 hsub k hk
 have hhead : okHeadW all tail.head? [] head = true := by
  simp only [rgOkW, Bool.and_eq_true] at hrg
  exact hrg.1.1.1.1.1
 have hlt := okHeadW_lt _ _ hhead
 unfold GM at h
 obtain ⟨κ, Ms, e0, hK, hmono, hsame, hstg, hob⟩ := RM0.table (kap f []) head [] (kap f []) 0 M0 h hhead (fun t => kap_mono (fun p hp => by cases hp) t) hmo (by simpa using hst0) (fun _ _ => rfl)
 refine CS.drawHW hm head tail hrg htops (fun s g i' L' => Inv L' ∧ ((∀ k, s k = true → ∀ m, waits all k m = true → s m = true) ∧ ∀ t, (∀ k ∈ head, dstIs all k t = true → s k = false) → g t = f t) ∧ (∀ t, (∀ k ∈ head, dstIs all k t = true → s k = true) → κ t i' (g t)) ∧
  ∃ q, q ≤ lc.length ∧ (∀ j ∈ lc.take q, s j = true) ∧ (∀ j ∈ lc.drop q, s j = false) ∧ (Ms q).m i' ((Ms q).s.map g) L') ?_ ?_ ?_
 · refine ⟨hinv, ⟨fun k (hk : false = true) => Bool.noConfusion hk, fun t _ => rfl⟩, fun t ht => ?_, 0, Nat.zero_le _, fun j hj => by simp at hj, fun j _ => rfl, by rw [e0]; exact h0⟩
   rw [hsame t (fun k hk => by
    cases hx : dstIs all k t with
    | false => rfl
    | true => have := ht k hk hx; cases this)]
   rfl
 · intro j hj o ho s hsj haft g i' L' hi ⟨hI, ⟨hcl, hinit⟩, hκ, q, hq, htk, hdr, hMq⟩
   obtain ⟨pre, post, hp⟩ := List.append_of_mem hj
   have hop := okHeadW_spec _ _ hhead pre j post hp
   obtain ⟨o', ho', hl1, _, _⟩ := okOpW_pre hop
   rw [ho] at ho'; cases ho'
   have hwait : ∀ k, waits all j k = true → s k = true := by
    intro k hw
    obtain ⟨o2, ho2, e, he, hb, hon⟩ := waits_spec hw
    rw [ho] at ho2; cases ho2
    rw [← hon]; exact haft e he hb
   have hmem : ∀ k, k ∈ head → k ∈ [] ++ pre ∨ k = j ∨ k ∈ post := by
    intro k hk
    rw [hp] at hk
    rcases List.mem_append.1 hk with hk | hk
    · exact .inl (by simpa using hk)
    · rcases List.mem_cons.1 hk with rfl | hk
      · exact .inr (.inl rfl)
      · exact .inr (.inr hk)
   have hlook : LK all post o (kap f []) κ i' g := by
    intro t ht
    refine ⟨fun hno => hκ t fun k hk hd => ?_, fun ⟨j', hj', hd'⟩ => ?_⟩
    · rcases hl1 t ht k (hlt k hk) (hmem k hk) hd with ⟨_, h2⟩ | ⟨h1, _⟩
      · exact hwait k h2
      · rw [hno k h1] at hd; cases hd
    · have hj'h : j' ∈ head := by rw [hp]; exact List.mem_append_right _ (List.mem_cons_of_mem _ hj')
      have : g t = f t := hinit t fun k hk hd => by
       rcases hl1 t ht k (hlt k hk) (hmem k hk) hd with ⟨h1, _⟩ | ⟨_, h2, _⟩
       · rcases hl1 t ht j' (hlt j' hj'h) (.inr (.inr hj')) hd' with ⟨h3, _⟩ | ⟨_, _, h4⟩
         · exact absurd hj' (fun hin => by
            have hnd' : head.Nodup := okHeadW_nodup _ _ hhead
            rw [hp] at hnd'
            have := (List.nodup_append.1 hnd').2.2 j' (by simpa using h3) j' (List.mem_cons_of_mem _ hin)
            exact this rfl)
         · have := h4 k (by simpa using h1)
           rw [hd] at this; cases this
       · cases hsk : s k with
         | false => rfl
         | true => have := hcl k hsk j h2; rw [hsj] at this; cases this
      show kap f [] t i' (g t)
      exact this
   have hdj : ∀ t, o.dst = some t → dstIs all j t = true := fun t hd => dstIs_of ho hd
   have hdj' : ∀ t, dstIs all j t = true → o.dst = some t := by
    intro t hd
    unfold dstIs at hd; simp only [ho] at hd
    cases hod : o.dst with
    | none => rw [hod] at hd; cases hd
    | some d => rw [hod] at hd; rw [Nat.eq_of_beq_eq_true hd]
   have part0 : ∀ v, (∀ k, setS s j k = true → ∀ m, waits all k m = true → setS s j m = true) ∧ ∀ t, (∀ k ∈ head, dstIs all k t = true → setS s j k = false) → updO g o.dst v t = f t := by
    intro v
    refine ⟨fun k hk m hw => ?_, fun t ht => ?_⟩
    · by_cases hmj : m = j
      · rw [hmj]; exact setS_same s j
      · rw [setS_ne s hmj]
        by_cases hkj : k = j
        · subst hkj; exact hwait m hw
        · rw [setS_ne s hkj] at hk; exact hcl k hk m hw
    · have e : updO g o.dst v t = g t := by
       cases hod : o.dst with
       | none => rfl
       | some d =>
         simp only [updO]
         refine upd_ne _ _ fun e => ?_
         have := ht j hj (by rw [e]; exact dstIs_of ho hod)
         rw [setS_same] at this; cases this
      rw [e]
      refine hinit t fun k hk hd => ?_
      have h1 := ht k hk hd
      by_cases hkj : k = j
      · subst hkj; rw [setS_same] at h1; cases h1
      · rwa [setS_ne s hkj] at h1
   have part1 : ∀ (K : Imm → Value → Prop) (v : Value) (i'' : Imm), (∀ d, o.dst = some d → κ d = K) → i'.le i'' → K i'' v → ∀ t, (∀ k ∈ head, dstIs all k t = true → setS s j k = true) → κ t i'' (updO g o.dst v t) := by
    intro K v i'' hKd hi' hKv t ht
    by_cases hdt : o.dst = some t
    · rw [hdt, hKd t hdt]; simp only [updO, upd_same]; exact hKv
    · have e : updO g o.dst v t = g t := by
       cases hod : o.dst with
       | none => rfl
       | some d => simp only [updO]; exact upd_ne _ _ (fun e => hdt (by rw [hod, e]))
      rw [e]
      refine hmono t i' i'' hi' _ (hκ t fun k hk hd => ?_)
      have h1 := ht k hk hd
      by_cases hkj : k = j
      · subst hkj; exact absurd (hdj' t hd) hdt
      · rwa [setS_ne s hkj] at h1
   obtain ⟨o', K, ho', hKd, hcase⟩ := hob pre j post hp
   rw [ho] at ho'; cases ho'
   rcases hcase with ⟨hnl, hfr⟩ | ⟨q', _, hq', hcob⟩
   · have hmap : ∀ v, (Ms q).s.map (updO g o.dst v) = (Ms q).s.map g := by
      intro v
      cases hod : o.dst with
      | none => rfl
      | some d =>
        refine map_upd fun hd => hnl ?_
        have := stOkS_spec (hstg q (Nat.zero_le _) hq).2 hd (hlt j hj) (hdj d hod)
        exact List.mem_of_mem_take this
     have part2 : ∀ (v : Value) (i'' : Imm), i'.le i'' → ∃ q, q ≤ lc.length ∧ (∀ k ∈ lc.take q, setS s j k = true) ∧ (∀ k ∈ lc.drop q, setS s j k = false) ∧ (Ms q).m i'' ((Ms q).s.map (updO g o.dst v)) L' := by
      intro v i'' hi'
      refine ⟨q, hq, fun k hk => ?_, fun k hk => ?_, by rw [hmap]; exact (hstg q (Nat.zero_le _) hq).1 i' i'' hi' _ _ hMq⟩
      · rw [setS_ne s (fun e => hnl (by rw [← e]; exact List.mem_of_mem_take hk))]; exact htk k hk
      · rw [setS_ne s (fun e => hnl (by rw [← e]; exact List.mem_of_mem_drop hk))]; exact hdr k hk
     rcases hfr i' hi g hlook L' hI with ⟨hg, hop⟩ | ⟨hg, hu⟩
     · refine .inl ⟨hg, hop.mono ?_⟩
       rintro v i'' L'' hi' ⟨rfl, hKv⟩
       exact ⟨hI, part0 v, part1 K v i'' hKd hi' hKv, part2 v i'' hi'⟩
     · exact .inr ⟨hg, hI, part0 undef, part1 K undef i' hKd (Imm.le.refl _) hu, part2 undef i' (Imm.le.refl _)⟩
   ·
    have hql : q' < lc.length := (List.getElem?_eq_some_iff.1 hq').1
    have hqq : q' = q := by
     rcases Nat.lt_trichotomy q' q with h1 | h1 | h1
     · have : j ∈ lc.take q := List.mem_of_getElem? (i := q') (by rw [List.getElem?_take, if_pos h1]; exact hq')
       have := htk j this
       rw [hsj] at this; cases this
     · exact h1
     · obtain ⟨x, hx⟩ : ∃ x, lc[q' - 1]? = some x := ⟨_, List.getElem?_eq_getElem (by omega)⟩
       have hw := okChain_waits lc hch (q' - 1) x j hx (by rw [show q' - 1 + 1 = q' by omega]; exact hq')
       have h2 := hwait x hw
       have : x ∈ lc.drop q := List.mem_of_getElem? (i := q' - 1 - q) (by rw [List.getElem?_drop, show q + (q' - 1 - q) = q' - 1 by omega]; exact hx)
       have := hdr x this
       rw [h2] at this; cases this
    subst hqq
    obtain ⟨hg, hop⟩ := hcob i' hi g hlook L' hI hMq
    refine .inl ⟨hg, hop.mono ?_⟩
    rintro v i'' L'' hi' ⟨hI', hM', hKv⟩
    refine ⟨hI', part0 v, part1 K v i'' hKd hi' hKv, q' + 1, hql, fun k hk => ?_, fun k hk => ?_, hM'⟩
    · by_cases hkj : k = j
      · subst hkj; exact setS_same s k
      · rw [setS_ne s hkj]
        rw [List.take_add_one, hq'] at hk
        rcases List.mem_append.1 hk with hk | hk
        · exact htk k hk
        · exact absurd (by simpa using hk) hkj
    · have hkj : k ≠ j := by
       rintro rfl
       obtain ⟨x, hx⟩ := List.mem_iff_getElem?.1 hk
       rw [List.getElem?_drop] at hx
       have := (List.getElem?_inj hql hnd).1 (hq'.trans hx.symm)
       omega
      rw [setS_ne s hkj]
      refine hdr k ?_
      rw [← List.drop_drop] at hk
      exact List.mem_of_mem_drop hk
 · intro g i' L' hi ⟨hI, _, hκ, q, hq, _, hdr, hMq⟩
   have hqe : q = lc.length := by
    rcases Nat.lt_or_ge q lc.length with h1 | h1
    · have hx : lc[q] ∈ lc.drop q := List.mem_of_getElem? (i := 0) (by rw [List.getElem?_drop, Nat.add_zero]; exact List.getElem?_eq_getElem h1)
      have h2 := hdr _ hx
      have h3 := hsub _ (List.mem_of_mem_drop hx)
      have : head.contains lc[q] = true := by simpa using h3
      simp only [this] at h2; cases h2
    · omega
   subst hqe
   exact hK g i' L' hi hI hMq fun t => hκ t fun k hk _ => by simpa using hk
end
section
variable {P : Program} {all : List Oper} {n : Nat} {i0 : Imm} {Inv : SH → Prop} {lc : List Nat} {Kont : Kap → Stage → Prop} {f : Fr} {F : List (Nat × (Imm → Value → Prop))} {r : List Nat} {k q : Nat} {M : Stage}
theorem notin_lc (hlc : lc.contains k = false) : k ∉ lc := by
 intro hin; have : lc.contains k = true := by simpa using hin
 rw [this] at hlc; cases hlc
theorem GM.fix {o : Oper} {v : Value} (ho : all[k]? = some o) (hs : noSel o = true) (hfr : freeOf F (o.looksAt all.toArray) = true) (hd : dstFree F o.dst = true) (hg : gok n f all o = true) (hlc : lc.contains k = false)
 (hv : ∀ i', i0.le i' → ∀ L', Inv L' → LV P n f i' L' o v) (h : GM P all n i0 Inv lc Kont r (updO f o.dst v) F q M) : GM P all n i0 Inv lc Kont (k :: r) f F q M := by
 unfold GM at *
 refine ⟨o, fun _ u => u = v, ho, fun _ _ _ _ h => h, .inl ⟨notin_lc hlc, fun i' hi g hgg L' hL' => .inl ?_, by rw [updK_fix hd]; exact h⟩⟩
 have heq := free_eq hfr hgg
 refine ⟨by rw [← gok_congr heq]; exact hg, OpS.congr (noSel_spec hs) (ev_congr heq) (OpS.value (v := v) (fun w hw => ?_) ⟨rfl, rfl⟩)⟩
 have := hv i' hi L' hL'
 unfold LV at this
 exact this w hw
theorem GM.pv {dst : Option Nat} {op : Op} {ty : TypeId} {pos : String} {aft : Array Edge} {gd : Option (Nat × Bool)} {v : Value} (hv : PV P n f ⟨dst, op, ty, pos, aft, gd⟩ v) (ho : all[k]? = some ⟨dst, op, ty, pos, aft, gd⟩) (hs : noSel ⟨dst, op, ty, pos, aft, gd⟩ = true)
 (hfr : freeOf F (Oper.looksAt all.toArray ⟨dst, op, ty, pos, aft, gd⟩) = true) (hd : dstFree F dst = true) (hg : gok n f all ⟨dst, op, ty, pos, aft, gd⟩ = true) (hlc : lc.contains k = false)
 (h : GM P all n i0 Inv lc Kont r (updO f dst v) F q M) : GM P all n i0 Inv lc Kont (k :: r) f F q M :=
 GM.fix ho hs hfr hd hg hlc (fun i' _ L' _ => by unfold LV; unfold PV at hv; exact fun w _ => hv w) h
theorem GM.lv {dst : Option Nat} {op : Op} {ty : TypeId} {pos : String} {aft : Array Edge} {gd : Option (Nat × Bool)} {v : Value} (hv : ∀ i', i0.le i' → ∀ L', Inv L' → LV P n f i' L' ⟨dst, op, ty, pos, aft, gd⟩ v) (ho : all[k]? = some ⟨dst, op, ty, pos, aft, gd⟩) (hs : noSel ⟨dst, op, ty, pos, aft, gd⟩ = true)
 (hfr : freeOf F (Oper.looksAt all.toArray ⟨dst, op, ty, pos, aft, gd⟩) = true) (hd : dstFree F dst = true) (hg : gok n f all ⟨dst, op, ty, pos, aft, gd⟩ = true) (hlc : lc.contains k = false)
 (h : GM P all n i0 Inv lc Kont r (updO f dst v) F q M) : GM P all n i0 Inv lc Kont (k :: r) f F q M :=
 GM.fix ho hs hfr hd hg hlc hv h
theorem GM.skip {o : Oper} (ho : all[k]? = some o) (hfr : freeOf F (o.looksAt all.toArray) = true) (hd : dstFree F o.dst = true) (hg : gok n f all o = false) (hlc : lc.contains k = false)
 (h : GM P all n i0 Inv lc Kont r (updO f o.dst undef) F q M) : GM P all n i0 Inv lc Kont (k :: r) f F q M := by
 unfold GM at *
 refine ⟨o, fun _ u => u = undef, ho, fun _ _ _ _ h => h, .inl ⟨notin_lc hlc, fun i' hi g hgg L' hL' => .inr ⟨?_, rfl⟩, by rw [updK_fix hd]; exact h⟩⟩
 rw [← gok_congr (free_eq hfr hgg)]; exact hg
theorem GM.fact {o : Oper} {d : Nat} (K : Imm → Value → Prop) (hmono : Mono K) (ho : all[k]? = some o) (hdst : o.dst = some d) (hs : noSel o = true) (hlc : lc.contains k = false)
 (hv : ∀ i', i0.le i' → ∀ L', Inv L' → kqs F (o.looksAt all.toArray) f i' fun g => gok n g all o = true ∧ OpS P n o g i' L' fun u i'' L'' => L'' = L' ∧ K i'' u) (h : GM P all n i0 Inv lc Kont r f ((d, K) :: F) q M) : GM P all n i0 Inv lc Kont (k :: r) f F q M := by
 unfold GM at *
 refine ⟨o, K, ho, hmono, .inl ⟨notin_lc hlc, fun i' hi g hgg L' hL' => .inl ?_, by rw [hdst, updK_fact]; exact h⟩⟩
 obtain ⟨f1, ⟨h1, h2⟩, heq⟩ := kqs_eq (hv i' hi L' hL') hgg
 exact ⟨by rw [← gok_congr heq]; exact h1, OpS.congr (noSel_spec hs) (ev_congr heq) h2⟩
theorem GM.turn {o : Oper} {d : Nat} (K : Imm → Value → Prop) (M' : Stage) (hmono : Mono K) (hM' : M'.mono) (ho : all[k]? = some o) (hdst : o.dst = some d) (hs : noSel o = true) (hq : lc[q]? = some k) (hst : stOkS all (lc.take (q + 1)) M'.s = true) (hsd : M'.s.all (fun t => Nat.beq t d || M.s.contains t) = true)
 (hv : ∀ i', i0.le i' → ∀ L', Inv L' → ∀ vs, vs.length = M.s.length → M.m i' vs L' → kqs F (o.looksAt all.toArray) f i' fun g => (∀ (j t : Nat) (v : Value), M.s[j]? = some t → vs[j]? = some v → (o.looksAt all.toArray).contains t = true → g t = v) → gok n g all o = true ∧ OpS P n o g i' L' fun u i'' L'' => Inv L'' ∧ K i'' u ∧ M'.m i'' (M'.s.map fun t => bif Nat.beq t d then u else (vs[M.s.idxOf t]?).getD undef) L'')
 (h : GM P all n i0 Inv lc Kont r f ((d, K) :: F) (q + 1) M') : GM P all n i0 Inv lc Kont (k :: r) f F q M := by
 unfold GM at *
 refine ⟨o, K, ho, hmono, .inr ⟨hq, M', hM', hst, fun i' hi g hgg L' hL' hm => ?_, by rw [hdst, updK_fact]; exact h⟩⟩
 obtain ⟨f1, h1, heq⟩ := kqs_eq (hv i' hi L' hL' (M.s.map g) (by simp) hm) hgg
 obtain ⟨h2, h3⟩ := h1 (fun j t v hj hv hc => by
  rw [heq t (by simpa using hc)]
  rw [List.getElem?_map, hj] at hv
  exact Option.some.inj hv)
 refine ⟨by rw [← gok_congr heq]; exact h2, OpS.mono (OpS.congr (noSel_spec hs) (ev_congr heq) h3) ?_⟩
 rintro u i'' L'' _ ⟨h4, h5, h6⟩
 refine ⟨h4, ?_, h5⟩
 have e : M'.s.map (updO g o.dst u) = M'.s.map fun t => bif Nat.beq t d then u else ((M.s.map g)[M.s.idxOf t]?).getD undef := by
  refine List.map_congr_left fun t ht => ?_
  rw [hdst]
  simp only [updO, upd]
  cases hb : Nat.beq t d with
  | true => rfl
  | false =>
    have := List.all_eq_true.1 hsd t ht
    rw [hb, Bool.false_or] at this
    have hin : t ∈ M.s := by simpa using this
    have hlt : M.s.idxOf t < M.s.length := List.idxOf_lt_length_iff.2 hin
    simp only [cond_false]
    rw [List.getElem?_map, List.getElem?_eq_getElem hlt, List.getElem_idxOf]
    rfl
 rw [e]; exact h6
theorem GM.turn0 {o : Oper} (M' : Stage) (hM' : M'.mono) (ho : all[k]? = some o) (hdst : o.dst = none) (hs : noSel o = true) (hq : lc[q]? = some k) (hst : stOkS all (lc.take (q + 1)) M'.s = true) (hsd : M'.s.all (fun t => M.s.contains t) = true)
 (hv : ∀ i', i0.le i' → ∀ L', Inv L' → ∀ vs, vs.length = M.s.length → M.m i' vs L' → kqs F (o.looksAt all.toArray) f i' fun g => (∀ (j t : Nat) (v : Value), M.s[j]? = some t → vs[j]? = some v → (o.looksAt all.toArray).contains t = true → g t = v) → gok n g all o = true ∧ OpS P n o g i' L' fun _ i'' L'' => Inv L'' ∧ M'.m i'' (M'.s.map fun t => (vs[M.s.idxOf t]?).getD undef) L'')
 (h : GM P all n i0 Inv lc Kont r f F (q + 1) M') : GM P all n i0 Inv lc Kont (k :: r) f F q M := by
 unfold GM at *
 refine ⟨o, fun _ _ => True, ho, fun _ _ _ _ h => h, .inr ⟨hq, M', hM', hst, fun i' hi g hgg L' hL' hm => ?_, by rw [hdst]; exact h⟩⟩
 obtain ⟨f1, h1, heq⟩ := kqs_eq (hv i' hi L' hL' (M.s.map g) (by simp) hm) hgg
 obtain ⟨h2, h3⟩ := h1 (fun j t v hj hv hc => by
  rw [heq t (by simpa using hc)]
  rw [List.getElem?_map, hj] at hv
  exact Option.some.inj hv)
 refine ⟨by rw [← gok_congr heq]; exact h2, OpS.mono (OpS.congr (noSel_spec hs) (ev_congr heq) h3) ?_⟩
 rintro u i'' L'' _ ⟨h4, h6⟩
 refine ⟨h4, ?_, trivial⟩
 have e : M'.s.map (updO g o.dst u) = M'.s.map fun t => ((M.s.map g)[M.s.idxOf t]?).getD undef := by
  refine List.map_congr_left fun t ht => ?_
  rw [hdst]
  have hin : t ∈ M.s := by simpa using List.all_eq_true.1 hsd t ht
  have hlt : M.s.idxOf t < M.s.length := List.idxOf_lt_length_iff.2 hin
  simp only [updO]
  rw [List.getElem?_map, List.getElem?_eq_getElem hlt, List.getElem_idxOf]
  rfl
 rw [e]; exact h6
theorem GM.done {i : Imm} {tops : List Oper} {K : Fr → Imm → SH → Prop} (hn : nodupF F = true) (hq : q = lc.length)
 (h : ∀ i' L' vs, i.le i' → Inv L' → vs.length = M.s.length → M.m i' vs L' → kq F f i' fun f' => (∀ (j t : Nat) (v : Value), M.s[j]? = some t → vs[j]? = some v → f' t = v) → RS P all n tops f' i' L' K) :
 GM P all n i Inv lc (fun κ M => ∀ g i' L', i.le i' → Inv L' → M.m i' (M.s.map g) L' → (∀ t, κ t i' (g t)) → RS P all n tops g i' L' K) [] f F q M := by
 unfold GM
 refine ⟨hq, fun g i' L' hi hI hm hg => ?_⟩
 refine kq_use F f g i' _ hn (h i' L' (M.s.map g) hi hI (by simp) hm) hg ?_
 intro j t v hj hv
 rw [List.getElem?_map, hj] at hv
 exact Option.some.inj hv
end
end Go.Eng
namespace Go.Eng
open Go
def stE (A : SH → Prop) : Stage := ⟨[], fun _ _ L => A L⟩
theorem stE_mono (A : SH → Prop) : (stE A).mono := fun _ _ _ _ _ h => h
def PtC (sz : Nat) (R : List Value → Prop) (i : Imm) (v : Value) : Prop :=
 ∃ b off cs t fz l, v = .pointer (some ⟨b, off, none⟩) ∧ i.blk b = some (.cells (List.toArray cs) t fz) ∧ l.length = sz ∧ (∀ j u, l[j]? = some u → cs[off + j]? = some u) ∧ R l
theorem PtC.mono (sz : Nat) (R : List Value → Prop) : Mono (PtC sz R) := by
 rintro i i' hi v ⟨b, off, cs, t, fz, l, h1, h2, h3⟩
 exact ⟨b, off, cs, t, fz, l, h1, hi.blk _ _ h2, h3⟩
section
variable {P : Program} {all : List Oper} {n : Nat} {i0 : Imm} {Inv : SH → Prop} {lc : List Nat} {Kont : Kap → Stage → Prop} {f : Fr} {F : List (Nat × (Imm → Value → Prop))} {r : List Nat} {k q : Nat}
theorem CS.drawE {id : Nat} {i : Imm} {L : SH} {Q : Ex → Fr → Imm → SH → Prop} {tops : List Oper} (hm : P.follows .mixedOrders = true) (head tail lc : List Nat) (Inv A : SH → Prop) (hok : (rgOkW all head tail [] && okChain all lc && lc.all (head.contains ·) && stOkS all [] []) = true) (hnd : lc.Nodup) (htops : getAll all tail = some tops)
 (hinv : Inv L) (h0 : A L)
 (h : GM P all n i Inv lc (fun κ M => ∀ g i' L', i.le i' → Inv L' → M.m i' (M.s.map g) L' → (∀ t, κ t i' (g t)) → RS P all n tops g i' L' fun f' i'' L'' => Q .normal f' i'' L'') head f [] 0 (stE A)) : CS P n (.region id all.toArray true) f i L Q :=
 CS.drawM hm head tail lc Inv (stE A) hok hnd htops hinv (stE_mono A) h0 h
theorem GM.turnE {o : Oper} {d : Nat} {A : SH → Prop} (K : Imm → Value → Prop) (B : SH → Prop) (hmono : Mono K) (ho : all[k]? = some o) (hdst : o.dst = some d) (hs : noSel o = true) (hq : lc[q]? = some k)
 (hv : ∀ i', i0.le i' → ∀ L', Inv L' → A L' → kqs F (o.looksAt all.toArray) f i' fun g => gok n g all o = true ∧ OpS P n o g i' L' fun u i'' L'' => Inv L'' ∧ K i'' u ∧ B L'')
 (h : GM P all n i0 Inv lc Kont r f ((d, K) :: F) (q + 1) (stE B)) : GM P all n i0 Inv lc Kont (k :: r) f F q (stE A) := by
 refine GM.turn K (stE B) hmono (stE_mono B) ho hdst hs hq rfl rfl (fun i' hi L' hL' vs _ hm => ?_) h
 have h1 := hv i' hi L' hL' hm
 have mon : ∀ (ts : List Nat) (f0 : Fr) (R R' : Fr → Prop), (∀ g, R g → R' g) → kqs F ts f0 i' R → kqs F ts f0 i' R' := by
  intro ts
  induction ts with
  | nil => intro f0 R R' h1 h2; exact h1 _ h2
  | cons t ts ih =>
    intro f0 R R' h1 h2
    simp only [kqs] at h2 ⊢
    split at h2
    · rename_i K0 hK0
      exact fun v hv => ih _ _ _ h1 (h2 v hv)
    · rename_i hK0
      exact ih _ _ _ h1 h2
 exact mon _ _ _ _ (fun g h2 _ => h2) h1
theorem GM.doneE {i : Imm} {tops : List Oper} {K : Fr → Imm → SH → Prop} {A : SH → Prop} (hn : nodupF F = true) (hq : q = lc.length)
 (h : ∀ i' L', i.le i' → Inv L' → A L' → kq F f i' fun f' => RS P all n tops f' i' L' K) :
 GM P all n i Inv lc (fun κ M => ∀ g i' L', i.le i' → Inv L' → M.m i' (M.s.map g) L' → (∀ t, κ t i' (g t)) → RS P all n tops g i' L' K) [] f F q (stE A) := by
 refine GM.done hn hq fun i' L' vs hi hI _ hm => ?_
 have h1 := h i' L' hi hI hm
 have mon : ∀ (F : List (Nat × (Imm → Value → Prop))) (f0 : Fr) (R R' : Fr → Prop), (∀ g, R g → R' g) → kq F f0 i' R → kq F f0 i' R' := by
  intro F
  induction F with
  | nil => intro f0 R R' h1 h2; exact h1 _ h2
  | cons p F ih => intro f0 R R' h1 h2; exact fun v hv => ih _ _ _ h1 (h2 v hv)
 exact mon _ _ _ _ (fun g h2 _ => h2) h1
theorem GM.bs {T : Tab} (hT : T.ok P) (sz : Nat) {d t len e : Nat} {parts : Array (Nat × Operand)} {cs : List Value} {ty : TypeId} {pos : String} {aft : Array Edge} {gd : Option (Nat × Bool)} {M : Stage} (h0 : bsl T n f t len parts.toList = some (e, cs)) (hl : cs.length = len * sz) (ho : all[k]? = some ⟨some d, .buildSlice t len parts, ty, pos, aft, gd⟩) (hfr : freeOf F (Oper.looksAt all.toArray ⟨some d, .buildSlice t len parts, ty, pos, aft, gd⟩) = true) (hg : gok n f all ⟨some d, .buildSlice t len parts, ty, pos, aft, gd⟩ = true) (hlc : lc.contains k = false)
 (h : GM P all n i0 Inv lc Kont r f ((d, fun i v => ∃ b, v = .slice (some ⟨b, 0, none⟩) len len ∧ Sl i v sz len cs) :: F) q M) : GM P all n i0 Inv lc Kont (k :: r) f F q M := by
 refine GM.fact _ (fun i i' hi v ⟨b, h1, h2⟩ => ⟨b, h1, h2.le hi⟩) ho rfl rfl hlc (fun i' hi L' hL' => ?_) h
 have hfree : ∀ (ts : List Nat) (f0 : Fr) (R : Fr → Prop), freeOf F ts = true → R f0 → kqs F ts f0 i' R := by
  intro ts
  induction ts with
  | nil => intro f0 R _ h; exact h
  | cons t ts ih =>
    intro f0 R hf h
    simp only [freeOf, List.all_cons, Bool.and_eq_true] at hf
    simp only [kqs]
    split
    · rename_i K hK; rw [hK] at hf; cases hf.1
    · exact ih f0 R hf.2 h
 refine hfree _ f _ hfr ⟨hg, OpS.mono (OpS.buildSliceF (sz := sz) hT h0 hl) ?_⟩
 rintro v i'' L'' _ ⟨rfl, b, rfl, hs⟩
 exact ⟨rfl, b, rfl, hs⟩
end
section
variable {P : Program} {n : Nat} {f : Fr} {i : Imm} {L : SH} {dst : Option Nat} {ty : TypeId} {pos : String} {aft : Array Edge} {gd : Option (Nat × Bool)} {T : Tab}
theorem OpS.idx (hT : T.ok P) {t sz len : Nat} {x y : Operand} {v : Value} {xs : List Value} {j : Int} {kd : IntKind} (R : List Value → Prop) (hx : ev n f x = v) (hy : ev n f y = .int kd j) (hs : elSz T t = some sz) (hsz : 0 < sz) (hv : Sl i v sz len xs) (hj : 0 ≤ j ∧ j < len) (hR : R ((xs.drop (j.toNat * sz)).take sz)) :
 OpS P n ⟨dst, .indexAddr t x y, ty, pos, aft, gd⟩ f i L fun u i'' L'' => L'' = L ∧ PtC sz R i'' u := by
 obtain ⟨b, o, cs, tt, fz, cap, rfl, h2, h3⟩ := hv.at (k := j.toNat) (by omega) hsz
 obtain ⟨ao, cap', e1, hlen, _⟩ := hv
 refine OpS.mono (OpS.pv (PV.indexAddr hT hx hy hs hj)) ?_
 rintro u i'' L'' hi ⟨rfl, rfl⟩
 have hle : j.toNat * sz + sz ≤ xs.length := by
  have := Nat.mul_le_mul_right sz (show j.toNat + 1 ≤ len by omega)
  rw [Nat.add_mul, Nat.one_mul] at this
  omega
 refine ⟨rfl, b, _, cs, tt, fz, _, rfl, hi.blk _ _ h2, by simp; omega, fun m w hm => ?_, hR⟩
 rw [List.getElem?_take] at hm
 split at hm
 · rename_i hlt
   rw [List.getElem?_drop] at hm
   have := h3 m hlt
   rw [show ((j.toNat : Nat) : Int) = j by omega] at this
   rw [this, hm]
 · cases hm
theorem OpS.ld1 (hT : T.ok P) {t : Nat} {x : Operand} {v : Value} {sz : Nat} {R : List Value → Prop} (hx : ev n f x = v) (ht : tIs T (fun d => !isAggD d) t = true) (h : PtC sz R i v) (hsz : 0 < sz) :
 OpS P n ⟨dst, .load t x, ty, pos, aft, gd⟩ f i L fun u i'' L'' => L'' = L ∧ ∃ l, l[0]? = some u ∧ R l ∧ l.length = sz := by
 obtain ⟨b, off, cs, tt, fz, l, rfl, h2, h3, h4, h5⟩ := h
 obtain ⟨u, hu⟩ : ∃ u, l[0]? = some u := ⟨_, List.getElem?_eq_getElem (by omega)⟩
 refine OpS.mono (OpS.lv (LV.load1 hT hx (Has.imm h2) ht (h4 0 u hu))) ?_
 rintro w i'' L'' hi ⟨rfl, rfl⟩
 exact ⟨rfl, l, hu, h5, h3⟩
end
section
variable {P : Program} {all : List Oper} {n : Nat} {r : List Oper} {f : Fr} {i : Imm} {L : SH} {K : Fr → Imm → SH → Prop} {dst : Option Nat} {ty : TypeId} {pos : String} {aft : Array Edge} {gd : Option (Nat × Bool)}
theorem RS.op {op : Op} {Post : Value → Imm → SH → Prop} (h : OpS P n ⟨dst, op, ty, pos, aft, gd⟩ f i L Post) (hg : gok n f all ⟨dst, op, ty, pos, aft, gd⟩ = true) (k : ∀ v i' L', i.le i' → Post v i' L' → RS P all n r (updO f dst v) i' L' K) : RS P all n (⟨dst, op, ty, pos, aft, gd⟩ :: r) f i L K :=
 RS.step hg (OpS.mono h k)
end
end Go.Eng
namespace Go.Eng
open Go
theorem SlO.shape {e : TypeId} {v : Value} {sz n : Nat} {xs : List Value} {O : SH} (h : SlO e v sz n xs O) : ∃ ao cap, v = .slice ao n cap := by
 obtain ⟨_, ⟨rfl, rfl, rfl⟩ | ⟨g, cap, sp, rfl, _, _, _⟩⟩ := h
 · exact ⟨none, 0, rfl⟩
 · exact ⟨_, cap, rfl⟩
section
variable {P : Program} {all : List Oper} {n : Nat} {r : List Oper} {f : Fr} {i : Imm} {L : SH} {K : Fr → Imm → SH → Prop} {dst : Option Nat} {ty : TypeId} {pos : String} {aft : Array Edge} {gd : Option (Nat × Bool)} {T : Tab} {v : Value}
theorem RS.app (hT : T.ok P) {t e sz bytes : Nat} {x y : Operand} {u : Value} {k m : Nat} {xs news : List Value} {O L0 : SH} (hg : gok n f all ⟨dst, .call ⟨.builtin .append, #[x, y], #[t, t]⟩, ty, pos, aft, gd⟩ = true) (hx : ev n f x = v) (hy : ev n f y = u)
 (hv : SlO e v sz k xs O) (hu : Rd i (O ++ L0) u sz m news) (hte : ∃ d, tget T t = some d ∧ d.desc = .slice e) (hee : ∃ d, tget T e = some d ∧ d.size = sz ∧ d.bytes = bytes) (hsz : 0 < sz) (hone : ∀ c ∈ news, c.oneCell' = true) (hmax : (k + m) * bytes ≤ 140737488355328) (hmax2 : k + m ≤ 9223372036854775807)
 (h : ∀ ao cap O', SlO e (.slice ao (k + m) cap) sz (k + m) (xs ++ news) O' → RS P all n r (updO f dst (.slice ao (k + m) cap)) i (O' ++ L0) K) : RS P all n (⟨dst, .call ⟨.builtin .append, #[x, y], #[t, t]⟩, ty, pos, aft, gd⟩ :: r) f i (O ++ L0) K := by
 refine RS.append hT hg hx hy hte hee hsz hv rfl hu hone hmax hmax2 ?_
 intro v' O' hO _
 obtain ⟨ao, cap, rfl⟩ := hO.shape
 exact h ao cap O' hO
theorem OpS.app (hT : T.ok P) {t e sz bytes : Nat} {x y : Operand} {u : Value} {k m : Nat} {xs news : List Value} {O L0 : SH} (hx : ev n f x = v) (hy : ev n f y = u)
 (hv : SlO e v sz k xs O) (hu : Rd i (O ++ L0) u sz m news) (hte : ∃ d, tget T t = some d ∧ d.desc = .slice e) (hee : ∃ d, tget T e = some d ∧ d.size = sz ∧ d.bytes = bytes) (hsz : 0 < sz) (hone : ∀ c ∈ news, c.oneCell' = true) (hmax : (k + m) * bytes ≤ 140737488355328) (hmax2 : k + m ≤ 9223372036854775807) :
 OpS P n ⟨dst, .call ⟨.builtin .append, #[x, y], #[t, t]⟩, ty, pos, aft, gd⟩ f i (O ++ L0) fun v' i' L' => i' = i ∧ ∃ ao cap O', v' = .slice ao (k + m) cap ∧ SlO e v' sz (k + m) (xs ++ news) O' ∧ L' = O' ++ L0 := by
 refine OpS.append hT hx hy hte hee hsz hv rfl hu hone hmax hmax2 ?_
 intro v' O' hO _
 obtain ⟨ao, cap, rfl⟩ := hO.shape
 exact ⟨rfl, ao, cap, O', rfl, hO, rfl⟩
end
theorem FnS.frozenA {P : Program} {g : FuncId} {args : List Value} {i : Imm} {L : SH} {X : Type} {e : TypeId} {sz : Nat} {φ : X → Value → Imm → Nat → List Value → Prop} {B : X → SH} (hmono : ∀ x v i i' n xs, Imm.le i i' → φ x v i n xs → φ x v i' n xs)
 (h : FnS P g args i L fun v i' L' => ∃ x n xs O, φ x v i' n xs ∧ SlO e v sz n xs O ∧ L' = O ++ B x) : FnS P g args i L fun v i' L' => ∃ x n xs, φ x v i' n xs ∧ Sl i' v sz n xs ∧ L' = B x := by
 refine FnS.state h ?_
 rintro v i' L' w _ hs ⟨x, n, xs, O, h1, h2, rfl⟩
 obtain ⟨i'', h3, h4, h5⟩ := h2.freeze hs
 exact ⟨i'', _, h3, h4, x, n, xs, hmono _ _ _ _ _ _ h3 h1, h5, rfl⟩
theorem allOne {cs : List Value} (h : cs.all (·.oneCell') = true) : ∀ c ∈ cs, c.oneCell' = true := List.all_eq_true.1 h
theorem St.dropMid {i : Imm} {A G R : SH} {w : World} (h : St i (A ++ (G ++ R)) w) : St i (A ++ R) w :=
 (h.perm (List.perm_append_comm_assoc A G R)).dropL
theorem RS.garb {P : Program} {all : List Oper} {n : Nat} {r : List Oper} {f : Fr} {i : Imm} {K : Fr → Imm → SH → Prop} (A G R : SH) (h : RS P all n r f i (A ++ R) K) : RS P all n r f i (A ++ (G ++ R)) K :=
 RS.state fun _ hw => ⟨i, A ++ R, Imm.le.refl i, hw.dropMid, h⟩
theorem Rd.ahead {i : Imm} {L : SH} {v : Value} {sz n : Nat} {xs : List Value} (A : SH) (h : Rd i L v sz n xs) : Rd i (A ++ L) v sz n xs := by
 obtain ⟨ao, cap, h1, h2, h3⟩ := h
 refine ⟨ao, cap, h1, h2, h3.imp id ?_⟩
 rintro ⟨b, o, cs, t, fz, h4, h5, h6⟩
 exact ⟨b, o, cs, t, fz, h4, h5.imp id (fun h => List.mem_append_right _ h), h6⟩
end Go.Eng
namespace Go.Eng
open Go
section
variable {P : Program} {n : Nat} {f : Fr} {dst : Option Nat} {ty : TypeId} {pos : String} {aft : Array Edge} {gd : Option (Nat × Bool)} {T : Tab}
theorem PV.cutT (hT : T.ok P) {t l h : Nat} {s : ByteArray} {x : Operand} {lo hi : Option Operand} (hx : ev n f x = .string s) (hs : tIs T isStrD t = true) (hlo : (lo = none ∧ l = 0) ∨ ∃ y k, lo = some y ∧ ev n f y = .int k (l : Int)) (hhi : (hi = none ∧ h = s.size) ∨ ∃ y k, hi = some y ∧ ev n f y = .int k (h : Int)) (h1 : l ≤ h) (h2 : h ≤ s.size) :
 PV P n f ⟨dst, .slice t x lo hi none, ty, pos, aft, gd⟩ (.string (s.extract l h)) := by
 unfold PV; intro w
 have g1 := tIs_str hT hs
 have a1 : (0 : Int) ≤ (l : Int) ∧ (l : Int) ≤ (h : Int) := by omega
 have a2 : (0 : Int) ≤ (h : Int) ∧ (h : Int) ≤ (s.size : Int) := by omega
 have a3 : (0 : Int) ≤ (h : Int) := by omega
 have a4 : (0 : Int) ≤ (l : Int) := by omega
 rcases hlo with ⟨rfl, hl0⟩ | ⟨y1, k1, rfl, hy1⟩ <;> rcases hhi with ⟨rfl, hh0⟩ | ⟨y2, k2, rfl, hy2⟩
 all_goals simp_all [execOp, Instr.sliceAt, Instr.slice, Instr.sliceBounds, Instr.sliceBound, asIntOf, run_underlying g1]
theorem PV.addT {t t2 : Nat} {x y : Operand} {p q : ByteArray} (hx : ev n f x = .string p) (hy : ev n f y = .string q) (h : p.size + q.size ≤ 9223372036854775807) : PV P n f ⟨dst, .binOp .add t x y t2, ty, pos, aft, gd⟩ (.string (p ++ q)) := by
 unfold PV; intro w
 simp only [execOp, hx, hy, eqGuard, binOp, Op.stringOp]
 simp
 omega
theorem byte_at {s : ByteArray} {j : Nat} (h : j < s.size) : ∃ b : UInt8, s[j]? = some b := ⟨s[j], by simp [h]⟩
end
section
variable {P : Program} {all : List Oper} {n : Nat} {r : List Oper} {f : Fr} {i : Imm} {L : SH} {K : Fr → Imm → SH → Prop} {dst : Option Nat} {ty : TypeId} {pos : String} {aft : Array Edge} {gd : Option (Nat × Bool)} {T : Tab} {s p q : ByteArray} {t t2 : Nat} {x y z : Operand} {j m : Int} {k k2 : IntKind}
theorem RS.idxT (hT : T.ok P) (hg : gok n f all ⟨dst, .index t x y, ty, pos, aft, gd⟩ = true) (hx : ev n f x = .string s) (hy : ev n f y = .int k j) (ht : tIs T isStrD t = true) (hj : 0 ≤ j ∧ j < s.size)
 (h : ∀ b : Int, 0 ≤ b → b < 256 → RS P all n r (updO f dst (.int .u8 b)) i L K) : RS P all n (⟨dst, .index t x y, ty, pos, aft, gd⟩ :: r) f i L K := by
 obtain ⟨b, hb⟩ := byte_at (s := s) (j := j.toNat) (by omega)
 exact RS.pv (PV.indexS hT hx hy ht hj.1 hb) hg (h _ (by omega) (by have := b.toNat_lt; omega))
theorem RS.cutLo (hT : T.ok P) (hg : gok n f all ⟨dst, .slice t x (some y) none none, ty, pos, aft, gd⟩ = true) (hx : ev n f x = .string s) (hy : ev n f y = .int k j) (ht : tIs T isStrD t = true) (hj : 0 ≤ j ∧ j ≤ s.size)
 (h : ∀ s' : ByteArray, (s'.size : Int) = s.size - j → RS P all n r (updO f dst (.string s')) i L K) : RS P all n (⟨dst, .slice t x (some y) none none, ty, pos, aft, gd⟩ :: r) f i L K :=
 RS.pv (PV.cutT hT (l := j.toNat) (h := s.size) hx ht (.inr ⟨y, k, rfl, by rw [hy]; congr 1; omega⟩) (.inl ⟨rfl, rfl⟩) (by omega) (Nat.le_refl _)) hg (h _ (by rw [ByteArray.size_extract]; omega))
theorem RS.cutHi (hT : T.ok P) (hg : gok n f all ⟨dst, .slice t x none (some y) none, ty, pos, aft, gd⟩ = true) (hx : ev n f x = .string s) (hy : ev n f y = .int k j) (ht : tIs T isStrD t = true) (hj : 0 ≤ j ∧ j ≤ s.size)
 (h : ∀ s' : ByteArray, (s'.size : Int) = j → RS P all n r (updO f dst (.string s')) i L K) : RS P all n (⟨dst, .slice t x none (some y) none, ty, pos, aft, gd⟩ :: r) f i L K :=
 RS.pv (PV.cutT hT (l := 0) (h := j.toNat) hx ht (.inl ⟨rfl, rfl⟩) (.inr ⟨y, k, rfl, by rw [hy]; congr 1; omega⟩) (by omega) (by omega)) hg (h _ (by rw [ByteArray.size_extract]; omega))
theorem RS.cutLH (hT : T.ok P) (hg : gok n f all ⟨dst, .slice t x (some y) (some z) none, ty, pos, aft, gd⟩ = true) (hx : ev n f x = .string s) (hy : ev n f y = .int k j) (hz : ev n f z = .int k2 m) (ht : tIs T isStrD t = true) (hj : 0 ≤ j ∧ j ≤ m ∧ m ≤ s.size)
 (h : ∀ s' : ByteArray, (s'.size : Int) = m - j → RS P all n r (updO f dst (.string s')) i L K) : RS P all n (⟨dst, .slice t x (some y) (some z) none, ty, pos, aft, gd⟩ :: r) f i L K :=
 RS.pv (PV.cutT hT (l := j.toNat) (h := m.toNat) hx ht (.inr ⟨y, k, rfl, by rw [hy]; congr 1; omega⟩) (.inr ⟨z, k2, rfl, by rw [hz]; congr 1; omega⟩) (by omega) (by omega)) hg (h _ (by rw [ByteArray.size_extract]; omega))
theorem RS.addT (hg : gok n f all ⟨dst, .binOp .add t x y t2, ty, pos, aft, gd⟩ = true) (hx : ev n f x = .string p) (hy : ev n f y = .string q) (hs : p.size + q.size ≤ 9223372036854775807)
 (h : ∀ s' : ByteArray, s'.size = p.size + q.size → RS P all n r (updO f dst (.string s')) i L K) : RS P all n (⟨dst, .binOp .add t x y t2, ty, pos, aft, gd⟩ :: r) f i L K :=
 RS.pv (PV.addT hx hy hs) hg (h _ (ByteArray.size_append ..))
theorem QS.idxT {K : Fr → Prop} (hT : T.ok P) (hg : gok n f all ⟨dst, .index t x y, ty, pos, aft, gd⟩ = true) (hx : ev n f x = .string s) (hy : ev n f y = .int k j) (ht : tIs T isStrD t = true) (hj : 0 ≤ j ∧ j < s.size)
 (h : ∀ b : Int, 0 ≤ b → b < 256 → QS P all n r (updO f dst (.int .u8 b)) i L K) : QS P all n (⟨dst, .index t x y, ty, pos, aft, gd⟩ :: r) f i L K := by
 obtain ⟨b, hb⟩ := byte_at (s := s) (j := j.toNat) (by omega)
 exact QS.pv (PV.indexS hT hx hy ht hj.1 hb) hg (h _ (by omega) (by have := b.toNat_lt; omega))
theorem RS.callY {g : FuncId} {as : Array Operand} {ts : Array TypeId} {vs : List Value} (R : Bool → Imm → SH → Prop) (h : FnS P g vs i L fun v i' L' => ∃ b, v = .bool b ∧ R b i' L') (hg : gok n f all ⟨dst, .call ⟨.value (.func g), as, ts⟩, ty, pos, aft, gd⟩ = true) (hf : fnOk P g = true)
 (ha : as.toList.map (ev n f) = vs) (hT : ∀ i' L', i.le i' → R true i' L' → RS P all n r (updO f dst (.bool true)) i' L' K) (hF : ∀ i' L', i.le i' → R false i' L' → RS P all n r (updO f dst (.bool false)) i' L' K) : RS P all n (⟨dst, .call ⟨.value (.func g), as, ts⟩, ty, pos, aft, gd⟩ :: r) f i L K := by
 refine RS.call h hg hf ha ?_
 rintro v i' L' hi ⟨b, rfl, hb⟩
 cases b
 · exact hF i' L' hi hb
 · exact hT i' L' hi hb
end
end Go.Eng
namespace Go.Eng
open Go
theorem FnS.intro3 {P : Program} {g : FuncId} {fn : Func} {c : Code} {args : List Value} {i : Imm} {L : SH} {Post : Value → Imm → SH → Prop} {n r s t : Nat}
 (hf : P.funcs[g]? = some fn) (hb : fn.body = some c) (hn : fn.ntmps = n) (hl : args.length ≤ n) (hres : fn.results = #[.tmp r, .tmp s, .tmp t])
 (h : CS P n c (argF 0 args) i L (retQ fun f i' L' => Post (.tuple #[ev n f (.tmp r), ev n f (.tmp s), ev n f (.tmp t)]) i' L')) : FnS P g args i L Post :=
 FnS.body hf hb hn hl _ (fun f i' L' w _ k => ⟨_, by simp only [results, hres]; simp [evt], k⟩) h
theorem FnS.drop {P : Program} {g : FuncId} {args : List Value} {i : Imm} {L : SH} {φ : Value → Imm → Prop} (h : FnS P g args i L fun v i' L' => ∃ G, φ v i' ∧ L' = G ++ L) : FnS P g args i L fun v i' L' => φ v i' ∧ L' = L := by
 refine FnS.state h ?_
 rintro v i' L' w _ hs ⟨G, h1, rfl⟩
 exact ⟨i', L, Imm.le.refl i', hs.dropL, h1, rfl⟩
section
variable {P : Program} {n : Nat} {f : Fr} {i : Imm} {L : SH} {dst : Option Nat} {ty : TypeId} {pos : String} {aft : Array Edge} {gd : Option (Nat × Bool)} {T : Tab}
theorem SlO.block {e : TypeId} {g cap m sz : Nat} {xs : List Value} {O : SH} (h : SlO e (.slice (some ⟨g, 0, none⟩) m cap) sz m xs O) : ∃ sp : List Value, O = [(g, .cells (xs ++ sp).toArray e (0, 0))] ∧ (xs ++ sp).length = cap * sz ∧ m ≤ cap := by
 obtain ⟨_, ⟨h1, _⟩ | ⟨g', cap', sp, h1, h2, h3, h4⟩⟩ := h
 · cases h1
 · cases h1; exact ⟨sp, h4, h3, h2⟩
theorem SlO.setAt {e : TypeId} {g cap m sz off : Nat} {xs sp : List Value} {u : Value} (h : SlO e (.slice (some ⟨g, 0, none⟩) m cap) sz m xs [(g, .cells (xs ++ sp).toArray e (0, 0))]) (ho : off < xs.length) :
 SlO e (.slice (some ⟨g, 0, none⟩) m cap) sz m (xs.set off u) [(g, .cells (xs.set off u ++ sp).toArray e (0, 0))] := by
 obtain ⟨h1, ⟨h2, _⟩ | ⟨g', cap', sp', h2, h3, h4, h5⟩⟩ := h
 · cases h2
 · cases h2
   have e1 : (xs ++ sp) = xs ++ sp' := by
    have := (List.cons.inj h5).1
    have := congrArg Prod.snd this
    simp only [Obj.cells.injEq] at this
    exact Array.toList_inj.2 this.1 |> fun h => by simpa using h
   have e2 : sp = sp' := List.append_cancel_left e1
   subst e2
   exact ⟨by rw [List.length_set]; exact h1, .inr ⟨g, cap, sp, rfl, h3, by rw [List.length_append, List.length_set, ← List.length_append]; exact h4, rfl⟩⟩
theorem OpS.storeO (hT : T.ok P) {t e g cap m sz off : Nat} {x y : Operand} {xs : List Value} {u : Value} {O L0 : SH} (hv : SlO e (.slice (some ⟨g, 0, none⟩) m cap) sz m xs O) (hx : ev n f x = .pointer (some ⟨g, off, none⟩)) (hy : ev n f y = u) (hc : cellsL u = some [u]) (hok : okStore T t [u] = true) (ho : off < xs.length) :
 OpS P n ⟨dst, .store t x y, ty, pos, aft, gd⟩ f i (O ++ L0) fun _ i' L' => i' = i ∧ ∃ O', SlO e (.slice (some ⟨g, 0, none⟩) m cap) sz m (xs.set off u) O' ∧ L' = O' ++ L0 := by
 obtain ⟨sp, rfl, h1, h2⟩ := hv.block
 have hlt : off < (xs ++ sp).length := by rw [List.length_append]; omega
 have hp : putAt (xs ++ sp) off [u] = some ((xs ++ sp).set off u) := by
  simp only [putAt, setX_some _ _ u _ (List.getElem?_eq_getElem hlt)]
 refine OpS.store (k := 0) (cs := xs ++ sp) hT hx hy hc rfl hok hp rfl ?_
 rw [List.set_append_left _ _ ho]
 exact ⟨rfl, _, hv.setAt ho, rfl⟩
end
section
variable {P : Program} {all : List Oper} {n : Nat} {i0 : Imm} {Inv : SH → Prop} {lc : List Nat} {Kont : Kap → Stage → Prop} {f : Fr} {F : List (Nat × (Imm → Value → Prop))} {r : List Nat} {k q : Nat}
theorem kqs_mono {i' : Imm} : ∀ (ts : List Nat) (f0 : Fr) (R R' : Fr → Prop), (∀ g, R g → R' g) → kqs F ts f0 i' R → kqs F ts f0 i' R'
 | [], f0, R, R', h1, h2 => h1 _ h2
 | t :: ts, f0, R, R', h1, h2 => by
   simp only [kqs] at h2 ⊢
   split at h2
   · rename_i K0 hK0
     exact fun v hv => kqs_mono ts _ _ _ h1 (h2 v hv)
   · rename_i hK0
     exact kqs_mono ts _ _ _ h1 h2
theorem GM.turnE0 {o : Oper} {A : SH → Prop} (B : SH → Prop) (ho : all[k]? = some o) (hdst : o.dst = none) (hs : noSel o = true) (hq : lc[q]? = some k)
 (hv : ∀ i', i0.le i' → ∀ L', Inv L' → A L' → kqs F (o.looksAt all.toArray) f i' fun g => gok n g all o = true ∧ OpS P n o g i' L' fun _ _ L'' => Inv L'' ∧ B L'')
 (h : GM P all n i0 Inv lc Kont r f F (q + 1) (stE B)) : GM P all n i0 Inv lc Kont (k :: r) f F q (stE A) :=
 GM.turn0 (stE B) (stE_mono B) ho hdst hs hq rfl rfl (fun i' hi L' hL' _ _ hm => kqs_mono _ _ _ _ (fun _ h2 _ => h2) (hv i' hi L' hL' hm)) h
end
end Go.Eng
namespace Go.Eng
open Go
section
variable {P : Program} {n : Nat} {f : Fr} {i : Imm} {L : SH} {dst : Option Nat} {ty : TypeId} {pos : String} {aft : Array Edge} {gd : Option (Nat × Bool)} {T : Tab}
theorem PV.toI {t t2 : Nat} {x : Operand} (hT : T.ok P) {a : Int} {k : IntKind} (hs : ∃ d, tget T t = some d) (hd : ∃ d, tget T t2 = some d ∧ d.desc = .int .i64) (hx : ev n f x = .int k a) (h : -9223372036854775808 ≤ a ∧ a ≤ 9223372036854775807) : PV P n f ⟨dst, .convert t t2 x, ty, pos, aft, gd⟩ (.int .i64 a) := by
 obtain ⟨d1, h1⟩ := hs
 obtain ⟨d2, h2, h3⟩ := hd
 have u1 := (tget_ok hT h1).und
 have u2 := (tget_ok hT h2).und
 rw [h3] at u2
 unfold PV; intro w
 simp [execOp, hx, convert, run_underlying u1, run_underlying u2, Conv.intToInt, wrap_in _ h]
theorem OpS.perm {o : Oper} {L' : SH} {K : Value → Imm → SH → Prop} (hp : L.Perm L') (h : OpS P n o f i L' K) : OpS P n o f i L K := by
 unfold OpS at *
 exact fun w hw => h w (hw.perm hp)
theorem OpS.behind {o : Oper} {O L0 : SH} {φ : Value → Imm → SH → Prop} (A : SH) (h : OpS P n o f i (O ++ (A ++ L0)) fun v i' L' => ∃ O', φ v i' O' ∧ L' = O' ++ (A ++ L0)) : OpS P n o f i (A ++ (O ++ L0)) fun v i' L' => ∃ O', φ v i' O' ∧ L' = A ++ (O' ++ L0) := by
 refine OpS.state (OpS.perm (List.perm_append_comm_assoc A O L0) h) ?_
 rintro v i' L' w _ hs ⟨O', h1, rfl⟩
 exact ⟨i', _, Imm.le.refl i', hs.perm (List.perm_append_comm_assoc _ _ _), O', h1, rfl⟩
theorem OpS.appC (A : SH) (hT : T.ok P) {t e sz bytes : Nat} {x y : Operand} {u v : Value} {k m : Nat} {xs news : List Value} {O L0 : SH} (hx : ev n f x = v) (hy : ev n f y = u)
 (hv : SlO e v sz k xs O) (hu : Rd i (O ++ (A ++ L0)) u sz m news) (hte : ∃ d, tget T t = some d ∧ d.desc = .slice e) (hee : ∃ d, tget T e = some d ∧ d.size = sz ∧ d.bytes = bytes) (hsz : 0 < sz) (hone : ∀ c ∈ news, c.oneCell' = true) (hmax : (k + m) * bytes ≤ 140737488355328) (hmax2 : k + m ≤ 9223372036854775807) :
 OpS P n ⟨dst, .call ⟨.builtin .append, #[x, y], #[t, t]⟩, ty, pos, aft, gd⟩ f i (A ++ (O ++ L0)) fun v' i' L' => ∃ O', (∃ ao cap, v' = .slice ao (k + m) cap ∧ SlO e v' sz (k + m) (xs ++ news) O') ∧ L' = A ++ (O' ++ L0) := by
 refine OpS.behind (φ := fun v' _ O' => ∃ ao cap, v' = .slice ao (k + m) cap ∧ SlO e v' sz (k + m) (xs ++ news) O') A ?_
 refine OpS.mono (OpS.app hT hx hy hv hu hte hee hsz hone hmax hmax2) ?_
 rintro v' i' L' _ ⟨_, ao, cap, O', h1, h2, h3⟩
 exact ⟨O', ⟨ao, cap, h1, h2⟩, h3⟩
theorem OpS.storeC (A : SH) (hT : T.ok P) {t e g cap m sz off : Nat} {x y : Operand} {xs : List Value} {u : Value} {O L0 : SH} (hv : SlO e (.slice (some ⟨g, 0, none⟩) m cap) sz m xs O) (hx : ev n f x = .pointer (some ⟨g, off, none⟩)) (hy : ev n f y = u) (hc : cellsL u = some [u]) (hok : okStore T t [u] = true) (ho : off < xs.length) :
 OpS P n ⟨dst, .store t x y, ty, pos, aft, gd⟩ f i (A ++ (O ++ L0)) fun _ i' L' => ∃ O', SlO e (.slice (some ⟨g, 0, none⟩) m cap) sz m (xs.set off u) O' ∧ L' = A ++ (O' ++ L0) := by
 refine OpS.behind (φ := fun _ _ O' => SlO e (.slice (some ⟨g, 0, none⟩) m cap) sz m (xs.set off u) O') A ?_
 refine OpS.mono (OpS.storeO hT hv hx hy hc hok ho) ?_
 rintro v' i' L' _ ⟨_, O', h1, h2⟩
 exact ⟨O', h1, h2⟩
theorem OpS.store1 (hT : T.ok P) {t t' b off k : Nat} {x y : Operand} {cs : List Value} {u : Value} (hx : ev n f x = .pointer (some ⟨b, off, none⟩)) (hy : ev n f y = u) (hc : cellsL u = some [u]) (hk : L[k]? = some (b, .cells cs.toArray t' (0, 0))) (hok : okStore T t [u] = true) (ho : off < cs.length) :
 OpS P n ⟨dst, .store t x y, ty, pos, aft, gd⟩ f i L fun _ i' L' => i' = i ∧ L' = L.set k (b, .cells (cs.set off u).toArray t' (0, 0)) := by
 have hp : putAt cs off [u] = some (cs.set off u) := by
  simp only [putAt, setX_some _ _ u _ (List.getElem?_eq_getElem ho)]
 exact OpS.store hT hx hy hc hk hok hp (setX_some _ _ _ _ hk) ⟨rfl, rfl⟩
end
section
variable {P : Program} {all : List Oper} {n : Nat} {r : List Oper} {f : Fr} {i : Imm} {L : SH} {K : Fr → Imm → SH → Prop} {dst : Option Nat} {ty : TypeId} {pos : String} {aft : Array Edge} {gd : Option (Nat × Bool)} {T : Tab} {s : ByteArray} {t : Nat} {x y : Operand} {j : Int} {k : IntKind}
theorem RS.idxR (R : Int → Prop) (hT : T.ok P) (hR : ∀ (m : Nat) (b : UInt8), s[m]? = some b → R (b.toNat : Int)) (hg : gok n f all ⟨dst, .index t x y, ty, pos, aft, gd⟩ = true) (hx : ev n f x = .string s) (hy : ev n f y = .int k j) (ht : tIs T isStrD t = true) (hj : 0 ≤ j ∧ j < s.size)
 (h : ∀ b : Int, 0 ≤ b → b < 256 → R b → RS P all n r (updO f dst (.int .u8 b)) i L K) : RS P all n (⟨dst, .index t x y, ty, pos, aft, gd⟩ :: r) f i L K := by
 obtain ⟨b, hb⟩ := byte_at (s := s) (j := j.toNat) (by omega)
 exact RS.pv (PV.indexS hT hx hy ht hj.1 hb) hg (h _ (by omega) (by have := b.toNat_lt; omega) (hR _ b hb))
theorem QS.idxR {K : Fr → Prop} (R : Int → Prop) (hT : T.ok P) (hR : ∀ (m : Nat) (b : UInt8), s[m]? = some b → R (b.toNat : Int)) (hg : gok n f all ⟨dst, .index t x y, ty, pos, aft, gd⟩ = true) (hx : ev n f x = .string s) (hy : ev n f y = .int k j) (ht : tIs T isStrD t = true) (hj : 0 ≤ j ∧ j < s.size)
 (h : ∀ b : Int, 0 ≤ b → b < 256 → R b → QS P all n r (updO f dst (.int .u8 b)) i L K) : QS P all n (⟨dst, .index t x y, ty, pos, aft, gd⟩ :: r) f i L K := by
 obtain ⟨b, hb⟩ := byte_at (s := s) (j := j.toNat) (by omega)
 exact QS.pv (PV.indexS hT hx hy ht hj.1 hb) hg (h _ (by omega) (by have := b.toNat_lt; omega) (hR _ b hb))
end
def boolsL (cs : List Value) : Prop := ∀ c ∈ cs, ∃ b, c = .bool b
theorem boolsL.set {cs : List Value} (h : boolsL cs) (k : Nat) (b : Bool) : boolsL (cs.set k (.bool b)) := fun c hc => by
 rcases List.mem_or_eq_of_mem_set hc with h1 | rfl
 · exact h c h1
 · exact ⟨b, rfl⟩
theorem boolsL.at {cs : List Value} (h : boolsL cs) {k : Nat} (hk : k < cs.length) : ∃ b, cs[k]? = some (.bool b) := by
 obtain ⟨b, hb⟩ := h cs[k] (List.getElem_mem hk)
 exact ⟨b, by rw [List.getElem?_eq_getElem hk, hb]⟩
theorem boolsL.one {cs : List Value} (h : boolsL cs) : ∀ c ∈ cs, c.oneCell' = true := fun c hc => by
 obtain ⟨b, rfl⟩ := h c hc; rfl
theorem boolsL.rep (k : Nat) : boolsL (List.replicate k (.bool false)) := fun c hc => ⟨false, List.eq_of_mem_replicate hc⟩
theorem catX_nil : ∀ l : List Value, flat.catX l [] = some l
 | [] => rfl
 | a :: l => by simp only [flat.catX, catX_nil l]
theorem bsl_one {T : Tab} {n : Nat} {f : Fr} {t e : Nat} {x : Operand} {cs : List Value} {d1 d2 : TyE} (h1 : tget T t = some d1) (h2 : d1.desc = .slice e) (h3 : tget T e = some d2) (h4 : cs.length = d2.size) (h5 : 0 < d2.size) (h6 : d2.size ≤ 16777216) (hx : cellsL (ev n f x) = some cs) : bsl T n f t 1 [(0, x)] = some (e, cs) := by
 obtain ⟨dd, s1, b1, z1⟩ := d1
 simp only at h2
 subst h2
 have e1 : Nat.beq cs.length d2.size = true := by rw [h4]; exact Nat.beq_refl _
 have e2 : Nat.blt 0 d2.size = true := by simpa [Nat.blt_eq] using h5
 have e3 : Nat.ble (1 * d2.size) 16777216 = true := by rw [Nat.one_mul]; exact Nat.ble_eq_true_of_le h6
 have e4 : Nat.beq 0 0 = true := rfl
 have e5 : Nat.beq [(0, cs)].length 1 = true := rfl
 simp only [bsl, h1, h3, evParts, hx, e5, e2, e3, flat, e1, e4, Bool.and_self, cond_true, catX_nil]
theorem CS.garb0 {P : Program} {n : Nat} {c : Code} {f : Fr} {i : Imm} {Q : Ex → Fr → Imm → SH → Prop} (G R : SH) (h : CS P n c f i R Q) : CS P n c f i (G ++ R) Q :=
 CS.state fun _ hw => ⟨i, R, Imm.le.refl i, hw.dropL, h⟩
theorem RS.garb0 {P : Program} {all : List Oper} {n : Nat} {r : List Oper} {f : Fr} {i : Imm} {K : Fr → Imm → SH → Prop} (G R : SH) (h : RS P all n r f i R K) : RS P all n r f i (G ++ R) K :=
 RS.state fun _ hw => ⟨i, R, Imm.le.refl i, hw.dropL, h⟩
end Go.Eng
namespace Go.Eng
open Go
def buildA (sz : Nat) : List Value → List (Nat × List Value) → Option (List Value)
 | cs, [] => some cs
 | cs, (i, vs) :: rest => bif Nat.beq vs.length sz && Nat.blt 0 vs.length then (match putAt cs (i * sz) vs with | some cs' => buildA sz cs' rest | none => none) else none
theorem fill_buildA (sz : Nat) :
 ∀ (ps : List (Nat × List Value)) (vs : List (Nat × Value)) (cs cs' : List Value), buildA sz cs ps = some cs' → ps.map (fun p => (p.1, p.2.toArray)) = vs.map (fun p => (p.1, p.2.cells)) →
  Instr.fill (fun k => some (k * sz, sz)) cs.toArray vs = some cs'.toArray
 | [], vs, cs, cs', h, hv => by
   cases vs with
   | nil => cases h; rfl
   | cons _ _ => cases hv
 | (k, l) :: ps, vs, cs, cs', h, hv => by
   cases vs with
   | nil => cases hv
   | cons p vs =>
     obtain ⟨k', u⟩ := p
     simp only [List.map_cons, List.cons.injEq, Prod.mk.injEq] at hv
     obtain ⟨⟨rfl, hu⟩, hv⟩ := hv
     simp only [buildA] at h
     cases hb : (Nat.beq l.length sz && Nat.blt 0 l.length) with
     | false => rw [hb] at h; cases h
     | true =>
       rw [hb] at h
       simp only [cond_true] at h
       simp only [Bool.and_eq_true] at hb
       split at h
       · rename_i c1 h1
         have hlen := Nat.eq_of_beq_eq_true hb.1
         have hpos : 0 < l.length := by simpa [Nat.blt_eq] using hb.2
         obtain ⟨_, e2⟩ := putAt_eq _ _ _ _ h1
         have ih := fill_buildA sz ps vs c1 cs' h hv
         have hf := fold_put l cs (k * sz) c1 h1
         simp only [Instr.fill, ← hu]
         rw [if_neg]
         · rw [← ih, ← hf]
         · simp [hlen]; omega
       · cases h
section
variable {P : Program} {n : Nat} {f : Fr} {dst : Option Nat} {ty : TypeId} {pos : String} {aft : Array Edge} {gd : Option (Nat × Bool)} {T : Tab}
theorem PV.buildArr (hT : T.ok P) {t e m s1 b1 sz b2 : Nat} {d2 : TypeDesc} {zero z2 : List Value} {parts : Array (Nat × Operand)} {ps : List (Nat × List Value)} {cs : List Value} (he : tget T t = some ⟨.array m e, s1, b1, zero⟩) (he2 : tget T e = some ⟨d2, sz, b2, z2⟩) (hps : evParts n f parts.toList = some ps) (h : buildA sz zero ps = some cs) :
 PV P n f ⟨dst, .build t parts, ty, pos, aft, gd⟩ (.agg cs.toArray) := by
 unfold PV; intro w
 obtain ⟨hu, _, ti, z, hi, hs, hby, hz, hzc⟩ := tget_ok hT he
 obtain ⟨_, _, ti', z', hi', hs', _⟩ := tget_ok hT he2
 have hfill := fill_buildA sz ps (parts.toList.map fun p => (p.1, ev n f p.2)) zero cs h (evParts_spec _ _ hps)
 have hpl : (parts.map fun (k, x) => (k, ev n f x)).toList = parts.toList.map fun p => (p.1, ev n f p.2) := by simp
 have h1 : (zeroValue t).run P w = .ok z w := by simp [zeroValue, run_info hi, hz]
 have h2 : (sizeOf e).run P w = .ok sz w := by simp [sizeOf, run_info hi', hs']
 have hb : (Instr.build t (parts.map fun (k, x) => (k, ev n f x))).run P w = .ok (.agg cs.toArray) w := by
  unfold Instr.build
  rw [run_bind' _ _ _ _ _ h1, run_bind' _ _ _ _ _ (run_underlying hu w)]
  simp only []
  rw [run_bind' _ _ _ _ _ h2]
  simp only [hpl]
  have hzc' : z.cells = zero.toArray := by first | exact hzc | exact cellsL_eq hzc
  rw [hzc', hfill]
  simp
 simp only [execOp]
 rw [run_bind' _ _ _ _ _ hb]
 rfl
theorem PV.indexG (hT : T.ok P) {t e l s1 b1 : Nat} {z1 : List Value} {d : TyE} {x y : Operand} {cs : List Value} {j : Int} {k : IntKind} (hx : ev n f x = .agg cs.toArray) (hy : ev n f y = .int k j) (he : tget T t = some ⟨.array l e, s1, b1, z1⟩) (hd : tget T e = some d) (hag : isAggD d.desc = true) (hj : 0 ≤ j ∧ j < l) :
 PV P n f ⟨dst, .index t x y, ty, pos, aft, gd⟩ (.agg ((cs.drop (j.toNat * d.size)).take d.size).toArray) := by
 unfold PV; intro w
 have hu := (tget_ok hT he).und
 obtain ⟨h2, _, ti, z, hi, hsz, _⟩ := tget_ok hT hd
 simp [execOp, hx, hy, Instr.index, asIntOf, run_underlying hu, hj, sizeOf, run_info hi, hsz, part, run_isAgg h2, hag]
end
end Go.Eng
namespace Go.Eng.Ev
noncomputable section
open Go Go.Eng
section
inductive Pth where
 | e | o (p : Pth) | i (p : Pth)
noncomputable def pathF (fuel : Nat) : Nat → Pth :=
 Nat.rec (fun _ => .e) (fun _ ih n => Nat.rec .e (fun m _ => Bool.rec (.o (ih (Nat.div m 2))) (.i (ih (Nat.div m 2))) (Nat.beq (Nat.mod m 2) 1)) n) fuel
inductive Tr (α : Type) where
 | lf
 | nd (l : Tr α) (v : Option (Nat × α)) (r : Tr α)
variable {α β : Type}
def tk (x : α) : α := x
noncomputable def getP (p : Pth) : Tr α → Option (Nat × α) :=
 Pth.rec (fun t => Tr.rec none (fun _ v _ _ _ => v) t) (fun _ ih t => Tr.rec none (fun l _ _ _ _ => ih l) t) (fun _ ih t => Tr.rec none (fun _ _ r _ _ => ih r) t) p
noncomputable def setP (x : Option (Nat × α)) (p : Pth) : Tr α → (Tr α → β) → β :=
 Pth.rec (fun t k => Tr.rec (k (.nd .lf x .lf)) (fun l _ r _ _ => k (.nd l x r)) t)
  (fun _ ih t k => Tr.rec (ih .lf fun l' => k (.nd l' none .lf)) (fun l v r _ _ => ih l fun l' => k (.nd l' v r)) t)
  (fun _ ih t k => Tr.rec (ih .lf fun r' => k (.nd .lf none r')) (fun l v r _ _ => ih r fun r' => k (.nd l v r')) t) p
@[reducible] def fl (γ : Type) (_ : Nat) : Option γ := none
def fuelT : Nat := 16
noncomputable def chk (n : Nat) (x : Option (Nat × α)) : Option α := Option.rec none (fun q => Prod.rec (fun m a => Bool.rec none (some a) (Nat.beq m n)) q) x
def get (n : Nat) (t : Tr α) : Option α := chk n (getP (pathF fuelT n) t)
def setk (n : Nat) (a : α) (t : Tr α) (k : Tr α → β) : β := setP (some (n, a)) (pathF fuelT n) t k
def delk (n : Nat) (t : Tr α) (k : Tr α → β) : β := setP none (pathF fuelT n) t k
def set (n : Nat) (a : α) (t : Tr α) : Tr α := setk n a t id
def del (n : Nat) (t : Tr α) : Tr α := delk n t id
theorem setP_eq (x : Option (Nat × α)) : ∀ (p : Pth) (t : Tr α) {β : Type} (k : Tr α → β), setP x p t k = k (setP x p t id)
 | .e, .lf, _, _ => rfl
 | .e, .nd .., _, _ => rfl
 | .o p, .lf, _, k => (setP_eq x p .lf (fun l' => k (.nd l' none .lf))).trans (congrArg k (setP_eq x p .lf (fun l' => Tr.nd l' none .lf)).symm)
 | .o p, .nd l v r, _, k => (setP_eq x p l (fun l' => k (.nd l' v r))).trans (congrArg k (setP_eq x p l (fun l' => Tr.nd l' v r)).symm)
 | .i p, .lf, _, k => (setP_eq x p .lf (fun r' => k (.nd .lf none r'))).trans (congrArg k (setP_eq x p .lf (fun r' => Tr.nd .lf none r')).symm)
 | .i p, .nd l v r, _, k => (setP_eq x p r (fun r' => k (.nd l v r'))).trans (congrArg k (setP_eq x p r (fun r' => Tr.nd l v r')).symm)
theorem getP_lf (p : Pth) : getP p (.lf : Tr α) = none := by cases p <;> rfl
theorem getP_setP (x : Option (Nat × α)) : ∀ (p q : Pth) (t : Tr α), (q = p → getP q (setP x p t id) = x) ∧ (q ≠ p → getP q (setP x p t id) = getP q t)
 | .e, q, .lf => by
   refine ⟨fun h => by subst h; rfl, fun h => ?_⟩
   cases q with
   | e => exact absurd rfl h
   | o q => exact (getP_lf q).trans (getP_lf _).symm
   | i q => exact (getP_lf q).trans (getP_lf _).symm
 | .e, q, .nd l v r => by
   refine ⟨fun h => by subst h; rfl, fun h => ?_⟩
   cases q with
   | e => exact absurd rfl h
   | o q => rfl
   | i q => rfl
 | .o p, q, .lf => by
   have e : setP x (.o p) (.lf : Tr α) id = .nd (setP x p .lf id) none .lf := setP_eq x p .lf _
   rw [e]
   cases q with
   | e => exact ⟨fun h => (by cases h), fun _ => rfl⟩
   | o q =>
     obtain ⟨h1, h2⟩ := getP_setP x p q .lf
     exact ⟨fun h => h1 (by cases h; rfl), fun h => (h2 fun k => h (by rw [k])).trans ((getP_lf q).trans (getP_lf _).symm)⟩
   | i q => exact ⟨fun h => (by cases h), fun _ => (getP_lf q).trans (getP_lf _).symm⟩
 | .o p, q, .nd l v r => by
   have e : setP x (.o p) (.nd l v r) id = .nd (setP x p l id) v r := setP_eq x p l _
   rw [e]
   cases q with
   | e => exact ⟨fun h => (by cases h), fun _ => rfl⟩
   | o q =>
     obtain ⟨h1, h2⟩ := getP_setP x p q l
     exact ⟨fun h => h1 (by cases h; rfl), fun h => h2 fun k => h (by rw [k])⟩
   | i q => exact ⟨fun h => (by cases h), fun _ => rfl⟩
 | .i p, q, .lf => by
   have e : setP x (.i p) (.lf : Tr α) id = .nd .lf none (setP x p .lf id) := setP_eq x p .lf _
   rw [e]
   cases q with
   | e => exact ⟨fun h => (by cases h), fun _ => rfl⟩
   | i q =>
     obtain ⟨h1, h2⟩ := getP_setP x p q .lf
     exact ⟨fun h => h1 (by cases h; rfl), fun h => (h2 fun k => h (by rw [k])).trans ((getP_lf q).trans (getP_lf _).symm)⟩
   | o q => exact ⟨fun h => (by cases h), fun _ => (getP_lf q).trans (getP_lf _).symm⟩
 | .i p, q, .nd l v r => by
   have e : setP x (.i p) (.nd l v r) id = .nd l v (setP x p r id) := setP_eq x p r _
   rw [e]
   cases q with
   | e => exact ⟨fun h => (by cases h), fun _ => rfl⟩
   | i q =>
     obtain ⟨h1, h2⟩ := getP_setP x p q r
     exact ⟨fun h => h1 (by cases h; rfl), fun h => h2 fun k => h (by rw [k])⟩
   | o q => exact ⟨fun h => (by cases h), fun _ => rfl⟩
theorem chk_some {n : Nat} {x : Option (Nat × α)} {a : α} : chk n x = some a ↔ x = some (n, a) := by
 cases x with
 | none => exact ⟨fun h => (by cases h), fun h => (by cases h)⟩
 | some q =>
   obtain ⟨m, b⟩ := q
   have e : chk n (some (m, b)) = bif Nat.beq m n then some b else none := by
    show @Bool.rec (fun _ => Option α) none (some b) (Nat.beq m n) = _
    generalize Nat.beq m n = c
    cases c <;> rfl
   rw [e]
   cases hb : Nat.beq m n
   · refine ⟨fun h => (by cases h), fun h => ?_⟩
     cases h
     simp at hb
   · have := Nat.eq_of_beq_eq_true hb
     subst this
     exact ⟨fun h => (by cases h; rfl), fun h => by cases h; rfl⟩
theorem get_lf (n : Nat) : get n (.lf : Tr α) = none := by unfold get; rw [getP_lf]; rfl
theorem get_set {n m : Nat} {a y : α} {t : Tr α} (h : get m (set n a t) = some y) : (m = n ∧ y = a) ∨ (m ≠ n ∧ get m t = some y) := by
 unfold get set setk at h
 obtain ⟨h1, h2⟩ := getP_setP (some (n, a)) (pathF fuelT n) (pathF fuelT m) t
 rw [chk_some] at h
 by_cases hp : pathF fuelT m = pathF fuelT n
 · rw [h1 hp] at h
   cases h
   exact .inl ⟨rfl, rfl⟩
 · rw [h2 hp] at h
   refine .inr ⟨fun e => hp (by rw [e]), ?_⟩
   unfold get
   rw [chk_some]; exact h
theorem get_set_same (n : Nat) (a : α) (t : Tr α) : get n (set n a t) = some a := by
 unfold get set setk
 rw [chk_some]
 exact (getP_setP (some (n, a)) (pathF fuelT n) (pathF fuelT n) t).1 rfl
theorem get_del {n m : Nat} {y : α} {t : Tr α} (h : get m (del n t) = some y) : m ≠ n ∧ get m t = some y := by
 unfold get del delk at h
 obtain ⟨h1, h2⟩ := getP_setP none (pathF fuelT n) (pathF fuelT m) t
 rw [chk_some] at h
 by_cases hp : pathF fuelT m = pathF fuelT n
 · rw [h1 hp] at h; cases h
 · rw [h2 hp] at h
   refine ⟨fun e => hp (by rw [e]), ?_⟩
   unfold get
   rw [chk_some]; exact h
end
end
end Go.Eng.Ev
namespace Go.Eng.Ev
noncomputable section
open Go Go.Eng
structure PE where
 j : Nat
 k : Nat
 us : List Nat
 anc : List Nat
 re : List (Nat × List Nat)
abbrev Plans := List (Nat × List PE × List Nat)
abbrev Dom := Nat → Prop
inductive Cap where
 | fix (c : Nat)
 | rest (i : Nat)
inductive VV where
 | bool (b : Bool)
 | int (k : IntKind) (n : Int)
 | str (s : List Nat)
 | nilp
 | ptr (b o : Nat)
 | nils
 | sl (b o len : Nat) (c : Cap)
 | sle (b o o' i : Nat)
 | nilm
 | map (b : Nat)
 | fn (f : Fn) (fs cs : List VV)
 | nilf
 | yld (b : Nat)
 | iface (t : Nat) (v : VV)
 | nili
 | agg (l : List VV)
 | tup (l : List VV)
inductive VO where
 | cells (l : List VV) (ty sz : Nat)
 | map (es : List (VV × VV × Nat)) (clock : Nat)
 | miter (m : Option Nat) (since : Nat) (seen : List Nat) (last : Nat)
 | siter (s : List Nat) (pos : Nat)
 | row (l : List VV) (ty sz : Nat)
 | loop (N : Nat) (f : Tr VV) (T : Tab) (pl : Plans) (ps : List Nat) (assign body : Code) (st : Nat) (pend : Option Code)
def bytesOf (s : List Nat) : ByteArray := ⟨(s.map UInt8.ofNat).toArray⟩
structure Loc where
 at_ : Nat → Nat
 cap : Nat → Nat
 keep : List (Nat × Obj) := []
 good : Tab → Plans → Code → Prop
def Loc.capOf (ρ : Loc) (b : Nat) : Cap → Nat
 | .fix c => c
 | .rest i => ρ.cap b - i
mutual
def toV (ρ : Loc) : VV → Value
 | .bool b => .bool b
 | .int k n => .int k n
 | .str s => .string (bytesOf s)
 | .nilp => .pointer none
 | .ptr b o => .pointer (some ⟨ρ.at_ b, o, none⟩)
 | .nils => .slice none 0 0
 | .sl b o len c => .slice (some ⟨ρ.at_ b, o, none⟩) len (ρ.capOf b c)
 | .sle b o o' i => .slice (some ⟨ρ.at_ b, if ρ.cap b - i = 0 then o else o', none⟩) 0 (ρ.cap b - i)
 | .nilm => .map none
 | .map b => .map (some (ρ.at_ b))
 | .fn f fs cs => .func f (toVs ρ fs).toArray (toVs ρ cs).toArray
 | .nilf => .nilFunc
 | .yld b => .func (.yield (ρ.at_ b)) #[] #[]
 | .iface t v => .iface t (toV ρ v)
 | .nili => .nilIface
 | .agg l => .agg (toVs ρ l).toArray
 | .tup l => .tuple (toVs ρ l).toArray
def toVs (ρ : Loc) : List VV → List Value
 | [] => []
 | v :: l => toV ρ v :: toVs ρ l
end
mutual
def VV.lt (D : Dom) : VV → Prop
 | .ptr b _ => D b
 | .sl b _ _ _ => D b
 | .sle b _ _ _ => D b
 | .map b => D b
 | .yld b => D b
 | .fn _ fs cs => VV.lts D fs ∧ VV.lts D cs
 | .iface _ v => v.lt D
 | .agg l => VV.lts D l
 | .tup l => VV.lts D l
 | _ => True
def VV.lts (D : Dom) : List VV → Prop
 | [] => True
 | v :: l => v.lt D ∧ VV.lts D l
end
structure Ext0 (D : Dom) (ρ ρ' : Loc) : Prop where
 at_ : ∀ b, D b → ρ'.at_ b = ρ.at_ b
 cap : ∀ b, D b → ρ'.cap b = ρ.cap b
 good : ρ'.good = ρ.good
structure Ext (D : Dom) (ρ ρ' : Loc) : Prop extends Ext0 D ρ ρ' where
 keep : ρ'.keep = ρ.keep
def Dom.le (D D' : Dom) : Prop := ∀ b, D b → D' b
theorem Dom.le.refl (D : Dom) : D.le D := fun _ h => h
theorem Ext0.trans0 {D D' : Dom} {ρ ρ' ρ'' : Loc} (h : Ext0 D ρ ρ') (k : Ext0 D' ρ' ρ'') (hD : D.le D') : Ext0 D ρ ρ'' :=
 ⟨fun b hb => (k.at_ b (hD b hb)).trans (h.at_ b hb), fun b hb => (k.cap b (hD b hb)).trans (h.cap b hb), k.good.trans h.good⟩
theorem Ext.refl (D : Dom) (ρ : Loc) : Ext D ρ ρ := ⟨⟨fun _ _ => rfl, fun _ _ => rfl, rfl⟩, rfl⟩
theorem Ext.trans {D D' : Dom} {ρ ρ' ρ'' : Loc} (h : Ext D ρ ρ') (k : Ext D' ρ' ρ'') (hD : D.le D') : Ext D ρ ρ'' :=
 ⟨⟨fun b hb => (k.at_ b (hD b hb)).trans (h.at_ b hb), fun b hb => (k.cap b (hD b hb)).trans (h.cap b hb), k.good.trans h.good⟩, k.keep.trans h.keep⟩
theorem Ext0.capOf {D : Dom} {ρ ρ' : Loc} (h : Ext0 D ρ ρ') {b : Nat} (hb : D b) (c : Cap) : ρ'.capOf b c = ρ.capOf b c := by
 cases c with
 | fix c => rfl
 | rest i => simp only [Loc.capOf, h.cap b hb]
mutual
theorem toV_ext0 {D : Dom} {ρ ρ' : Loc} (h : Ext0 D ρ ρ') : ∀ v : VV, v.lt D → toV ρ' v = toV ρ v
 | .bool b, _ | .int k m, _ | .str s, _ | .nilp, _ | .nils, _ | .nilm, _ | .nilf, _ | .nili, _ => by simp only [toV]
 | .ptr b o, hl => by simp only [toV, h.at_ b (by simpa only [VV.lt] using hl)]
 | .sl b o len c, hl => by
   have hb : D b := by simpa only [VV.lt] using hl
   simp only [toV, h.at_ b hb, h.capOf hb]
 | .sle b o o' i, hl => by
   have hb : D b := by simpa only [VV.lt] using hl
   simp only [toV, h.at_ b hb, h.cap b hb]
 | .map b, hl => by simp only [toV, h.at_ b (by simpa only [VV.lt] using hl)]
 | .yld b, hl => by simp only [toV, h.at_ b (by simpa only [VV.lt] using hl)]
 | .fn f fs cs, hl => by
   simp only [VV.lt] at hl
   simp only [toV, toVs_ext0 h fs hl.1, toVs_ext0 h cs hl.2]
 | .iface t v, hl => by
   simp only [VV.lt] at hl
   simp only [toV, toV_ext0 h v hl]
 | .agg l, hl => by
   simp only [VV.lt] at hl
   simp only [toV, toVs_ext0 h l hl]
 | .tup l, hl => by
   simp only [VV.lt] at hl
   simp only [toV, toVs_ext0 h l hl]
theorem toVs_ext0 {D : Dom} {ρ ρ' : Loc} (h : Ext0 D ρ ρ') : ∀ l : List VV, VV.lts D l → toVs ρ' l = toVs ρ l
 | [], _ => by simp only [toVs]
 | v :: l, hl => by
   simp only [VV.lts] at hl
   simp only [toVs, toV_ext0 h v hl.1, toVs_ext0 h l hl.2]
end
theorem toV_ext {D : Dom} {ρ ρ' : Loc} (h : Ext D ρ ρ') (v : VV) (hl : v.lt D) : toV ρ' v = toV ρ v := toV_ext0 h.toExt0 v hl
theorem toVs_ext {D : Dom} {ρ ρ' : Loc} (h : Ext D ρ ρ') (l : List VV) (hl : VV.lts D l) : toVs ρ' l = toVs ρ l := toVs_ext0 h.toExt0 l hl
mutual
theorem VV.lt_mono {D D' : Dom} (h : D.le D') : ∀ v : VV, v.lt D → v.lt D'
 | .bool b, _ | .int k m, _ | .str s, _ | .nilp, _ | .nils, _ | .nilm, _ | .nilf, _ | .nili, _ => by simp only [VV.lt]
 | .ptr b o, hl => by simp only [VV.lt] at hl ⊢; exact h b hl
 | .sl b o len c, hl => by simp only [VV.lt] at hl ⊢; exact h b hl
 | .sle b o o' i, hl => by simp only [VV.lt] at hl ⊢; exact h b hl
 | .map b, hl => by simp only [VV.lt] at hl ⊢; exact h b hl
 | .yld b, hl => by simp only [VV.lt] at hl ⊢; exact h b hl
 | .fn f fs cs, hl => by simp only [VV.lt] at hl ⊢; exact ⟨VV.lts_mono h fs hl.1, VV.lts_mono h cs hl.2⟩
 | .iface t v, hl => by simp only [VV.lt] at hl ⊢; exact VV.lt_mono h v hl
 | .agg l, hl => by simp only [VV.lt] at hl ⊢; exact VV.lts_mono h l hl
 | .tup l, hl => by simp only [VV.lt] at hl ⊢; exact VV.lts_mono h l hl
theorem VV.lts_mono {D D' : Dom} (h : D.le D') : ∀ l : List VV, VV.lts D l → VV.lts D' l
 | [], _ => by simp only [VV.lts]
 | v :: l, hl => by simp only [VV.lts] at hl ⊢; exact ⟨VV.lt_mono h v hl.1, VV.lts_mono h l hl.2⟩
end
theorem toVs_map (ρ : Loc) : ∀ l : List VV, toVs ρ l = l.map (toV ρ)
 | [] => by simp only [toVs, List.map_nil]
 | v :: l => by simp only [toVs, List.map_cons, toVs_map ρ l]
theorem VV.lts_iff {D : Dom} : ∀ {l : List VV}, VV.lts D l ↔ ∀ v ∈ l, v.lt D
 | [] => by simp [VV.lts]
 | v :: l => by simp [VV.lts, VV.lts_iff (l := l)]
def VO.lt (D : Dom) : VO → Prop
 | .cells l _ _ => VV.lts D l
 | .map es _ => ∀ e ∈ es, e.1.lt D ∧ e.2.1.lt D
 | .miter (some m) _ _ _ => D m
 | .miter none _ _ _ => True
 | .siter _ _ => True
 | .row l _ _ => VV.lts D l
 | .loop _ f _ _ _ _ _ _ _ => ∀ t v, get t f = some v → v.lt D
def stOf : Nat → LoopState
 | 0 => .ready
 | 1 => .busy
 | _ => .done
def Holds (ρ : Loc) (b : Nat) : VO → Obj → Prop
 | .cells l ty sz, o => ∃ sp : List Value, o = .cells (toVs ρ l ++ sp).toArray ty (0, 0) ∧ l.length + sp.length = ρ.cap b * sz
 | .map es clock, o => o = .map (es.map fun e => (⟨toV ρ e.1, toV ρ e.2.1, e.2.2⟩ : MapEntry)).toArray clock
 | .miter m since seen last, o => o = .mapIter (m.map ρ.at_) since seen.toArray last
 | .siter s pos, o => o = .stringIter (bytesOf s) pos
 | .row l ty sz, o => ∃ (sp : List Value) (fz : Nat × Nat), o = .cells (toVs ρ l ++ sp).toArray ty fz ∧ l.length + sp.length = ρ.cap b * sz
 | .loop N f T pl ps assign body st pend, o => ρ.good T pl assign ∧ ρ.good T pl body ∧ ∃ (fr : Fr) (fn dfr : Nat), (∀ t v, get t f = some v → fr t = toV ρ v) ∧ o = .loop { state := stOf st, pending := pend, fn, tmps := (ofF N fr).tmps, params := ps.toArray, assign, body, defers := dfr }
theorem Holds.ext0 {D : Dom} {ρ ρ' : Loc} (h : Ext0 D ρ ρ') {b : Nat} (hb : D b) {vo : VO} (hl : vo.lt D) {o : Obj} (k : Holds ρ b vo o) : Holds ρ' b vo o := by
 cases vo with
 | cells l ty sz =>
   obtain ⟨sp, h1, h2⟩ := k
   exact ⟨sp, by rw [toVs_ext0 h l hl]; exact h1, by rw [h.cap b hb]; exact h2⟩
 | map es clock =>
   refine Eq.trans (show o = _ from k) ?_
   congr 2
   refine List.map_congr_left fun e he => ?_
   rw [toV_ext0 h _ (hl e he).1, toV_ext0 h _ (hl e he).2]
 | miter m since seen last =>
   cases m with
   | none => exact k
   | some m =>
     have hm : ρ'.at_ m = ρ.at_ m := h.at_ m hl
     refine Eq.trans (show o = _ from k) ?_
     simp only [Option.map_some, hm]
 | siter s pos => exact k
 | row l ty sz =>
   obtain ⟨sp, fz, h1, h2⟩ := k
   exact ⟨sp, fz, by rw [toVs_ext0 h l hl]; exact h1, by rw [h.cap b hb]; exact h2⟩
 | loop N f T pl ps assign body st pend =>
   obtain ⟨h1, h2, fr, fn, dfr, h3, h4⟩ := k
   refine ⟨by rw [h.good]; exact h1, by rw [h.good]; exact h2, fr, fn, dfr, fun t v hv => ?_, h4⟩
   rw [toV_ext0 h v (hl t v hv)]; exact h3 t v hv
theorem Holds.ext {D : Dom} {ρ ρ' : Loc} (h : Ext D ρ ρ') {b : Nat} (hb : D b) {vo : VO} (hl : vo.lt D) {o : Obj} (k : Holds ρ b vo o) : Holds ρ' b vo o := k.ext0 h.toExt0 hb hl
theorem VO.lt_mono {D D' : Dom} (h : D.le D') {vo : VO} (hl : vo.lt D) : vo.lt D' := by
 cases vo with
 | cells l ty sz => exact VV.lts_mono h l hl
 | map es clock => exact fun e he => ⟨VV.lt_mono h _ (hl e he).1, VV.lt_mono h _ (hl e he).2⟩
 | miter mm since seen last =>
   cases mm with
   | none => trivial
   | some k => exact h k hl
 | siter s pos => trivial
 | row l ty sz => exact VV.lts_mono h l hl
 | loop N f T pl ps assign body st pend => exact fun t v hv => VV.lt_mono h v (hl t v hv)
abbrev VH := Tr (Bool × VO)
structure LayP (ρ : Loc) (D : Dom) (S : Nat → Bool → VO → Prop) (i : Imm) (L : SH) : Prop where
 ok : ∀ k fz vo, S k fz vo → D k ∧ vo.lt D ∧ ∃ o, Holds ρ k vo o ∧ if fz = true then i.blk (ρ.at_ k) = some o else (ρ.at_ k, o) ∈ L
 inj : ∀ k k' vo vo', S k false vo → S k' false vo' → ρ.at_ k = ρ.at_ k' → k = k'
 frm : ∀ p ∈ ρ.keep, p ∈ L ∧ ∀ k vo, S k false vo → ρ.at_ k ≠ p.1
abbrev Lay (ρ : Loc) (D : Dom) (h : VH) (i : Imm) (L : SH) : Prop := LayP ρ D (fun k fz vo => get k h = some (fz, vo)) i L
theorem LayP.sub {ρ : Loc} {D : Dom} {S S' : Nat → Bool → VO → Prop} {i : Imm} {L : SH} (h : LayP ρ D S i L) (k : ∀ q fz vo, S' q fz vo → S q fz vo) : LayP ρ D S' i L :=
 ⟨fun q fz vo hq => h.ok q fz vo (k _ _ _ hq), fun q q' vo vo' hq hq' => h.inj q q' vo vo' (k _ _ _ hq) (k _ _ _ hq'), fun p hp => ⟨(h.frm p hp).1, fun q vo hq => (h.frm p hp).2 q vo (k _ _ _ hq)⟩⟩
theorem LayP.mono {ρ : Loc} {D D' : Dom} {S : Nat → Bool → VO → Prop} {i : Imm} {L : SH} (h1 : LayP ρ D S i L) (hD : D.le D') : LayP ρ D' S i L :=
 ⟨fun k fz vo hk => let ⟨a, b, c⟩ := h1.ok k fz vo hk; ⟨hD k a, VO.lt_mono hD b, c⟩, h1.inj, h1.frm⟩
def Slots (ρ : Loc) (D : Dom) (f : Tr VV) (fr : Fr) : Prop := ∀ t v, get t f = some v → v.lt D ∧ fr t = toV ρ v
theorem Slots.ext {D D' : Dom} {ρ ρ' : Loc} {f : Tr VV} {fr : Fr} (h : Slots ρ D f fr) (e : Ext D ρ ρ') (hm : D.le D') : Slots ρ' D' f fr := fun t v hv =>
 ⟨VV.lt_mono hm v (h t v hv).1, by rw [toV_ext e v (h t v hv).1]; exact (h t v hv).2⟩
theorem Slots.upd {D : Dom} {ρ : Loc} {f : Tr VV} {fr : Fr} (h : Slots ρ D f fr) {d : Nat} {v : VV} (hv : v.lt D) : Slots ρ D (set d v f) (upd fr d (toV ρ v)) := by
 intro t u hu
 rcases get_set hu with ⟨rfl, rfl⟩ | ⟨hne, hu⟩
 · exact ⟨hv, upd_same ..⟩
 · rw [upd_ne _ _ hne]; exact h t u hu
end
end Go.Eng.Ev
namespace Go.Eng.Ev
noncomputable section
open Go Go.Eng
def ofC : Value → Option VV
 | .bool b => some (.bool b)
 | .int k n => some (.int k n)
 | .string s => some (.str (s.data.toList.map UInt8.toNat))
 | .pointer none => some .nilp
 | .slice none 0 0 => some .nils
 | .map none => some .nilm
 | .nilFunc => some .nilf
 | .nilIface => some .nili
 | _ => none
def evO (N G : Nat) (f : Tr VV) : Operand → Option VV
 | .tmp t => bif Nat.blt t N then get t f else none
 | .const v => ofC v
 | .global g => bif Nat.blt g G then some (.ptr g 0) else none
 | .func g => some (.fn (.func g) [] [])
theorem ofNat_toNat (l : List UInt8) : (l.map UInt8.toNat).map UInt8.ofNat = l := by
 rw [List.map_map]
 conv => rhs; rw [← List.map_id l]
 refine List.map_congr_left fun b _ => ?_
 simp
theorem bytesOf_toNat (s : ByteArray) : bytesOf (s.data.toList.map UInt8.toNat) = s := by
 unfold bytesOf
 rw [ofNat_toNat]
theorem ofC_ok {v : Value} {u : VV} (h : ofC v = some u) (ρ : Loc) (D : Dom) : u.lt D ∧ toV ρ u = v := by
 unfold ofC at h
 split at h <;> cases h <;> simp [VV.lt, toV, bytesOf_toNat]
structure Glob (Γ : Tab → Plans → Code → Prop) (ρ : Loc) (D : Dom) (G : Nat) : Prop where
 gd : ρ.good = Γ
 le : ∀ b, b < G → D b
 at_ : ∀ b, b < G → ρ.at_ b = b
theorem Glob.ext {Γ : Tab → Plans → Code → Prop} {ρ ρ' : Loc} {D D' : Dom} {G : Nat} (h : Glob Γ ρ D G) (e : Ext D ρ ρ') (hm : D.le D') : Glob Γ ρ' D' G :=
 ⟨e.good.trans h.gd, fun b hb => hm b (h.le b hb), fun b hb => (e.at_ b (h.le b hb)).trans (h.at_ b hb)⟩
section
variable {Γ : Tab → Plans → Code → Prop} {ρ : Loc} {D : Dom} {N G : Nat} {f : Tr VV} {fr : Fr}
theorem evO_ok (hS : Slots ρ D f fr) (hG : Glob Γ ρ D G) {x : Operand} {v : VV} (h : evO N G f x = some v) : v.lt D ∧ ev N fr x = toV ρ v := by
 cases x with
 | tmp t =>
   simp only [evO] at h
   cases hb : Nat.blt t N with
   | false => rw [hb] at h; cases h
   | true =>
     rw [hb] at h
     have := hS t v h
     simp only [ev, hb, cond_true]
     exact this
 | const u => exact ⟨(ofC_ok h ρ D).1, (ofC_ok h ρ D).2.symm⟩
 | global g =>
   simp only [evO] at h
   cases hb : Nat.blt g G with
   | false => rw [hb] at h; cases h
   | true =>
     rw [hb] at h
     cases h
     have hlt : g < G := by simpa [Nat.blt_eq] using hb
     refine ⟨?_, ?_⟩
     · simp only [VV.lt]; exact hG.le g hlt
     · simp only [ev, toV, hG.at_ g hlt]
 | func g =>
   cases h
   simp [VV.lt, VV.lts, ev, toV, toVs]
def binI (op : BinOp) (k : IntKind) (a b : Int) : Option VV :=
 match op with
 | .add => some (.int k (k.wrap (a + b)))
 | .sub => some (.int k (k.wrap (a - b)))
 | .mul => some (.int k (k.wrap (a * b)))
 | .quo => bif decide (b = 0) then none else some (.int k (k.wrap (a.tdiv b)))
 | .rem => bif decide (b = 0) then none else some (.int k (a.tmod b))
 | .and => some (.int k (k.wrap (BitVec.ofInt k.bits a &&& BitVec.ofInt k.bits b).toNat))
 | .or => some (.int k (k.wrap (BitVec.ofInt k.bits a ||| BitVec.ofInt k.bits b).toNat))
 | .xor => some (.int k (k.wrap (BitVec.ofInt k.bits a ^^^ BitVec.ofInt k.bits b).toNat))
 | .andNot => some (.int k (k.wrap (BitVec.ofInt k.bits a &&& ~~~(BitVec.ofInt k.bits b)).toNat))
 | .eql => some (.bool (decide (a = b)))
 | .neq => some (.bool (!decide (a = b)))
 | .lss => some (.bool (decide (a < b)))
 | .leq => some (.bool (decide (a ≤ b)))
 | .gtr => some (.bool (decide (b < a)))
 | .geq => some (.bool (decide (b ≤ a)))
 | _ => none
def shI (op : BinOp) (k : IntKind) (a b : Int) : Option VV :=
 bif decide (b < 0) then none else
 match op with
 | .shl => some (.int k (k.wrap (a * 2 ^ (min b.toNat k.bits))))
 | .shr => some (.int k (a.fdiv (2 ^ (min b.toNat k.bits))))
 | _ => none
def isSh : BinOp → Bool
 | .shl => true
 | .shr => true
 | _ => false
variable {P : Program} {T : Tab} {dst : Option Nat} {ty : TypeId} {pos : String} {aft : Array Edge} {gd : Option (Nat × Bool)} {t t2 : Nat} {x y : Operand}
theorem binI_ok {op : BinOp} {k : IntKind} {a b : Int} {v : VV} (hx : ev N fr x = .int k a) (hy : ev N fr y = .int k b) (h : binI op k a b = some v) : v.lt D ∧ PV P N fr ⟨dst, .binOp op t x y t2, ty, pos, aft, gd⟩ (toV ρ v) := by
 unfold binI at h
 split at h
 case h_4 =>
  cases hb : decide (b = 0) with
  | true => rw [hb] at h; cases h
  | false =>
    rw [hb] at h; cases h
    have hb0 : b ≠ 0 := by simpa using hb
    refine ⟨by simp [VV.lt], ?_⟩
    unfold PV; intro w
    simp [execOp, hx, hy, eqGuard, binOp, Op.intDiv, hb0, toV]
 case h_5 =>
  cases hb : decide (b = 0) with
  | true => rw [hb] at h; cases h
  | false =>
    rw [hb] at h; cases h
    have hb0 : b ≠ 0 := by simpa using hb
    refine ⟨by simp [VV.lt], ?_⟩
    unfold PV; intro w
    simp [execOp, hx, hy, eqGuard, binOp, Op.intDiv, hb0, toV]
 case h_16 => cases h
 all_goals
  cases h
  refine ⟨by simp [VV.lt], ?_⟩
  unfold PV; intro w
  simp [execOp, hx, hy, eqGuard, binOp, Op.intArith, Op.intBits, Op.intCmp, toV]
 all_goals try rfl
theorem shI_ok {op : BinOp} {k k' : IntKind} {a b : Int} {v : VV} (hx : ev N fr x = .int k a) (hy : ev N fr y = .int k' b) (h : shI op k a b = some v) : v.lt D ∧ PV P N fr ⟨dst, .binOp op t x y t2, ty, pos, aft, gd⟩ (toV ρ v) := by
 unfold shI at h
 cases hb : decide (b < 0) with
 | true => rw [hb] at h; cases h
 | false =>
   rw [hb] at h
   have hb0 : ¬ b < 0 := by simpa using hb
   simp only [cond_false] at h
   split at h
   · cases h
     refine ⟨by simp [VV.lt], ?_⟩
     unfold PV; intro w
     simp [execOp, hx, hy, eqGuard, binOp, Op.shift, hb0, toV]
   · cases h
     refine ⟨by simp [VV.lt], ?_⟩
     unfold PV; intro w
     simp [execOp, hx, hy, eqGuard, binOp, Op.shift, hb0, toV]
   · cases h
end
end
end Go.Eng.Ev
namespace Go.Eng.Ev
noncomputable section
open Go Go.Eng
def eqS : List Nat → List Nat → Bool
 | [], [] => true
 | a :: p, b :: q => Nat.beq (Nat.mod a 256) (Nat.mod b 256) && eqS p q
 | _, _ => false
def ltS : List Nat → List Nat → Bool
 | _, [] => false
 | [], _ :: _ => true
 | a :: p, b :: q => Nat.blt (Nat.mod a 256) (Nat.mod b 256) || (Nat.beq (Nat.mod a 256) (Nat.mod b 256) && ltS p q)
def nth {α : Type} : List α → Nat → Option α
 | [], _ => none
 | a :: _, 0 => some a
 | _ :: l, k + 1 => nth l k
theorem nth_eq {α : Type} : ∀ (l : List α) (k : Nat), nth l k = l[k]?
 | [], _ => by simp [nth]
 | _ :: _, 0 => by simp [nth]
 | _ :: l, k + 1 => by simp [nth, nth_eq l k]
theorem beqN (a b : Nat) : Nat.beq (Nat.mod a 256) (Nat.mod b 256) = true ↔ a % 256 = b % 256 := ⟨Nat.eq_of_beq_eq_true, fun h => by rw [show Nat.mod a 256 = a % 256 from rfl, h]; exact Nat.beq_refl _⟩
theorem ofNat_inj {a b : Nat} : UInt8.ofNat a = UInt8.ofNat b ↔ a % 256 = b % 256 := by
 rw [← UInt8.toNat_inj]
 simp
theorem eqS_ok : ∀ p q : List Nat, eqS p q = decide (bytesOf p = bytesOf q) := by
 have key : ∀ p q : List Nat, eqS p q = true ↔ p.map UInt8.ofNat = q.map UInt8.ofNat := by
  intro p
  induction p with
  | nil => intro q; cases q <;> simp [eqS]
  | cons a p ih =>
    intro q
    cases q with
    | nil => simp [eqS]
    | cons b q =>
      have h := ofNat_inj (a := a) (b := b)
      simp only [eqS, Bool.and_eq_true, ih q, List.map_cons, List.cons.injEq, h]
      rw [beqN]
 intro p q
 rw [Bool.eq_iff_iff, key, decide_eq_true_iff]
 unfold bytesOf
 constructor
 · intro h; rw [h]
 · intro h
   have := congrArg (fun b : ByteArray => b.data.toList) h
   simpa using this
theorem bytesOf_toList (p : List Nat) : (bytesOf p).toList = p.map UInt8.ofNat := by
 rw [ByteArray.toList_eq]; simp [bytesOf]
theorem ltS_ok : ∀ p q : List Nat, ltS p q = Op.bytesLess (bytesOf p).toList (bytesOf q).toList := by
 intro p q
 rw [bytesOf_toList, bytesOf_toList]
 induction p generalizing q with
 | nil => cases q <;> simp [ltS, Op.bytesLess]
 | cons a p ih =>
   cases q with
   | nil => simp [ltS, Op.bytesLess]
   | cons b q =>
     have h1 : Nat.blt (Nat.mod a 256) (Nat.mod b 256) = decide (UInt8.ofNat a < UInt8.ofNat b) := by
      rw [Bool.eq_iff_iff, decide_eq_true_iff, UInt8.lt_iff_toNat_lt]
      rw [Nat.blt_eq]; simp; rfl
     have h2 : Nat.beq (Nat.mod a 256) (Nat.mod b 256) = (UInt8.ofNat a == UInt8.ofNat b) := by
      rw [Bool.eq_iff_iff, beq_iff_eq, ofNat_inj]
      exact beqN a b
     simp only [ltS, List.map_cons, Op.bytesLess, ih q, h1, h2]
theorem bytesOf_append (p q : List Nat) : bytesOf (p ++ q) = bytesOf p ++ bytesOf q := by
 apply ByteArray.ext
 simp [bytesOf]
theorem bytesOf_size (p : List Nat) : (bytesOf p).size = p.length := by simp [bytesOf, ByteArray.size]
end
end Go.Eng.Ev
namespace Go.Eng.Ev
noncomputable section
open Go Go.Eng
section
variable {Γ : Tab → Plans → Code → Prop} {ρ : Loc} {D : Dom} {N G : Nat} {f : Tr VV} {fr : Fr} {P : Program} {T : Tab} {dst : Option Nat} {ty : TypeId} {pos : String} {aft : Array Edge} {gd : Option (Nat × Bool)} {t t2 : Nat} {x y : Operand}
def binS (op : BinOp) (a b : List Nat) : Option VV :=
 match op with
 | .add => bif Nat.ble (a.length + b.length) 9223372036854775807 then some (.str (a ++ b)) else none
 | .eql => some (.bool (eqS a b))
 | .neq => some (.bool (!eqS a b))
 | .lss => some (.bool (ltS a b))
 | .leq => some (.bool (ltS a b || eqS a b))
 | .gtr => some (.bool (!(ltS a b || eqS a b)))
 | .geq => some (.bool (!ltS a b))
 | _ => none
theorem beqS (a b : List Nat) : ((bytesOf a).toList == (bytesOf b).toList) = eqS a b := by
 rw [eqS_ok, Bool.eq_iff_iff, beq_iff_eq, decide_eq_true_iff]
 exact ⟨str_inj, fun h => by rw [h]⟩
theorem binS_ok {op : BinOp} {a b : List Nat} {v : VV} (hx : ev N fr x = .string (bytesOf a)) (hy : ev N fr y = .string (bytesOf b)) (h : binS op a b = some v) : v.lt D ∧ PV P N fr ⟨dst, .binOp op t x y t2, ty, pos, aft, gd⟩ (toV ρ v) := by
 unfold binS at h
 split at h
 case h_1 =>
  cases hb : Nat.ble (a.length + b.length) 9223372036854775807 with
  | false => rw [hb] at h; cases h
  | true =>
    rw [hb] at h; cases h
    have hle := Nat.le_of_ble_eq_true hb
    refine ⟨by simp [VV.lt], ?_⟩
    unfold PV; intro w
    have hm : ¬ (((bytesOf a).size + (bytesOf b).size : Nat) : Int) > IntKind.i64.max := by
     rw [bytesOf_size, bytesOf_size]
     show ¬ ((a.length + b.length : Nat) : Int) > 9223372036854775807
     omega
    simp only [execOp, hx, hy, eqGuard, binOp, Op.stringOp, if_neg hm, toV, bytesOf_append]
    rfl
 case h_8 => cases h
 all_goals
  cases h
  refine ⟨by simp [VV.lt], ?_⟩
  unfold PV; intro w
  simp only [execOp, hx, hy, eqGuard, binOp, Op.stringOp, toV, beqS, ltS_ok]
  rfl
def isBoolD : TypeDesc → Bool
 | .bool => true
 | _ => false
def binN (T : Tab) (op : BinOp) (t : Nat) (a b : VV) : Option Bool :=
 match a, b with
 | .bool p, .bool q => bif tIs T isBoolD t then some (p == q) else none
 | .nilp, .nilp => bif tIs T isPtrD t then some true else none
 | .nilp, .ptr _ _ => bif tIs T isPtrD t then some false else none
 | .ptr _ _, .nilp => bif tIs T isPtrD t then some false else none
 | .nils, .nils => bif tIs T isSlD t then some true else none
 | .sl _ _ _ _, .nils => bif tIs T isSlD t then some false else none
 | .nilm, .nilm => bif tIs T isMapD t then some true else none
 | .map _, .nilm => bif tIs T isMapD t then some false else none
 | _, _ => none
theorem tIs_boolD (hT : T.ok P) {t : Nat} (h : tIs T isBoolD t = true) : P.underlying t = some .bool := by
 unfold tIs at h
 split at h
 · rename_i e he
   have h1 := (tget_ok hT he).und
   cases hd : e.desc with
   | bool => rw [hd] at h1; exact h1
   | _ => rw [hd] at h; cases h
 · cases h
theorem run_eq_bool0 {t : Nat} (h : P.underlying t = some .bool) (p q : Bool) (d : Nat) (w : World) : (Op.equalIn (d + 1) t (.bool p) (.bool q)).run P w = .ok (p == q) w := by
 simp [Op.equalIn, run_underlying h]
theorem run_eq_bool {t : Nat} (h : P.underlying t = some .bool) (p q : Bool) (w : World) : (Op.equal t (.bool p) (.bool q)).run P w = .ok (p == q) w :=
 run_eq_bool0 h p q 9999 w
theorem binN_ok (hT : T.ok P) {op : BinOp} {a b : VV} {r : Bool} (hx : ev N fr x = toV ρ a) (hy : ev N fr y = toV ρ b) (h : binN T op t a b = some r) :
 PV P N fr ⟨dst, .binOp .eql t x y t2, ty, pos, aft, gd⟩ (.bool r) ∧ PV P N fr ⟨dst, .binOp .neq t x y t2, ty, pos, aft, gd⟩ (.bool (!r)) := by
 unfold binN at h
 split at h
 · cases hb : tIs T isBoolD t with
   | false => rw [hb] at h; cases h
   | true =>
     rw [hb] at h; cases h
     have he := tIs_boolD hT hb
     simp only [toV] at hx hy
     constructor <;> (unfold PV; intro w; simp [execOp, hx, hy, eqGuard, binOp, run_eq_bool he])
 all_goals first | (cases h; done) | skip
 all_goals
  simp only [toV] at hx hy
 all_goals first
  | (cases hb : tIs T isPtrD t with
     | false => rw [hb] at h; cases h
     | true =>
       rw [hb] at h; cases h
       obtain ⟨e, he⟩ := tIs_ptr hT hb
       constructor <;> (unfold PV; intro w; simp [execOp, hx, hy, eqGuard, binOp, run_eq_ptr he, run_eq_rtp he]))
  | (cases hb : tIs T isSlD t with
     | false => rw [hb] at h; cases h
     | true =>
       rw [hb] at h; cases h
       obtain ⟨e, he⟩ := tIs_sl hT hb
       constructor <;> (unfold PV; intro w; simp [execOp, hx, hy, eqGuard, binOp, run_eq_sl he]))
  | (cases hb : tIs T isMapD t with
     | false => rw [hb] at h; cases h
     | true =>
       rw [hb] at h; cases h
       obtain ⟨k, e, he⟩ := tIs_map hT hb
       constructor <;> (unfold PV; intro w; simp [execOp, hx, hy, eqGuard, binOp, run_eq_map he]))
def evBin (T : Tab) (op : BinOp) (t : Nat) (a b : VV) : Option VV :=
 match a, b with
 | .int k p, .int k' q => bif isSh op then shI op k p q else bif decide (k = k') then binI op k p q else none
 | .str p, .str q => binS op p q
 | a, b =>
   match op with
   | .eql => (match binN T op t a b with | some r => some (.bool r) | none => none)
   | .neq => (match binN T op t a b with | some r => some (.bool (!r)) | none => none)
   | _ => none
theorem evBin_ok (hT : T.ok P) {op : BinOp} {a b v : VV} (hx : ev N fr x = toV ρ a) (hy : ev N fr y = toV ρ b) (h : evBin T op t a b = some v) : v.lt D ∧ PV P N fr ⟨dst, .binOp op t x y t2, ty, pos, aft, gd⟩ (toV ρ v) := by
 unfold evBin at h
 split at h
 · rename_i k p k' q
   simp only [toV] at hx hy
   cases hs : isSh op with
   | true => rw [hs] at h; exact shI_ok hx hy h
   | false =>
     rw [hs] at h
     simp only [cond_false] at h
     cases hk : decide (k = k') with
     | false => rw [hk] at h; cases h
     | true =>
       rw [hk] at h
       have : k = k' := of_decide_eq_true hk
       subst this
       exact binI_ok hx hy h
 · simp only [toV] at hx hy
   exact binS_ok hx hy h
 · split at h
   · split at h
     · rename_i r hr
       cases h
       exact ⟨by simp [VV.lt], by simp only [toV]; exact (binN_ok hT hx hy hr).1⟩
     · cases h
   · split at h
     · rename_i r hr
       cases h
       exact ⟨by simp [VV.lt], by simp only [toV]; exact (binN_ok hT hx hy hr).2⟩
     · cases h
   · cases h
end
end
end Go.Eng.Ev
namespace Go.Eng.Ev
noncomputable section
open Go Go.Eng
section
variable {Γ : Tab → Plans → Code → Prop} {ρ : Loc} {D : Dom} {N G : Nat} {f : Tr VV} {fr : Fr} {P : Program} {T : Tab} {dst : Option Nat} {ty : TypeId} {pos : String} {aft : Array Edge} {gd : Option (Nat × Bool)}
theorem toVs_len (ρ : Loc) (l : List VV) : (toVs ρ l).length = l.length := by rw [toVs_map, List.length_map]
theorem toVs_get (ρ : Loc) (l : List VV) (k : Nat) : (toVs ρ l)[k]? = (nth l k).map (toV ρ) := by rw [toVs_map, List.getElem?_map, nth_eq]
theorem lts_nth {l : List VV} (h : VV.lts D l) {k : Nat} {v : VV} (hk : nth l k = some v) : v.lt D := by
 rw [nth_eq] at hk
 exact VV.lts_iff.1 h v (List.mem_of_getElem? hk)
def evOs (N G : Nat) (f : Tr VV) : List Operand → Option (List VV)
 | [] => some []
 | x :: l => match evO N G f x with
   | some v => match evOs N G f l with
     | some r => some (v :: r)
     | none => none
   | none => none
theorem evOs_ok (hS : Slots ρ D f fr) (hG : Glob Γ ρ D G) : ∀ {l : List Operand} {r : List VV}, evOs N G f l = some r → VV.lts D r ∧ l.map (ev N fr) = toVs ρ r
 | [], r, h => by cases h; simp [VV.lts, toVs]
 | x :: l, r, h => by
   simp only [evOs] at h
   split at h
   · rename_i v hv
     split at h
     · rename_i q hq
       cases h
       obtain ⟨h1, h2⟩ := evO_ok hS hG hv
       obtain ⟨h3, h4⟩ := evOs_ok hS hG hq
       exact ⟨by simp only [VV.lts]; exact ⟨h1, h3⟩, by simp only [List.map_cons, toVs, h2, h4]⟩
     · cases h
   · cases h
def un (T : Tab) (o : Op) (v : VV) : Option VV :=
 match o with
 | .move _ => some v
 | .assign _ => some v
 | .nilCheck _ => (match v with
   | .ptr b k => some (.ptr b k)
   | .fn (.func g) fs cs => some (.fn (.func g) fs cs)
   | .iface t u => some (.iface t u)
   | _ => none)
 | .fieldAddr s _ fi => (match v with
   | .ptr b k => (match fOff T s fi with | some off => some (.ptr b (k + off)) | none => none)
   | _ => none)
 | .extract _ ix => (match v with
   | .tup l => nth l ix
   | _ => none)
 | .unOp .not _ _ => (match v with
   | .bool b => some (.bool (!b))
   | _ => none)
 | .unOp .neg _ _ => (match v with
   | .int k a => some (.int k (k.wrap (0 - a)))
   | _ => none)
 | .makeInterface t _ => (match tget T t with
   | some e => (match e.desc with
     | .interface _ => none
     | _ => some (.iface t v))
   | none => none)
 | _ => none
def opnd : Op → Option Operand
 | .move x => some x
 | .assign x => some x
 | .nilCheck x => some x
 | .fieldAddr _ x _ => some x
 | .extract x _ => some x
 | .unOp _ _ x => some x
 | .makeInterface _ x => some x
 | _ => none
theorem un_ok (hT : T.ok P) {o : Op} {x : Operand} {a v : VV} (ho : opnd o = some x) (hx : ev N fr x = toV ρ a) (ha : a.lt D) (h : un T o a = some v) : v.lt D ∧ PV P N fr ⟨dst, o, ty, pos, aft, gd⟩ (toV ρ v) := by
 unfold un at h
 split at h
 · cases ho; cases h
   exact ⟨ha, PV.move (by rw [hx]; exact sv_eq _)⟩
 · cases ho; cases h
   exact ⟨ha, PV.assign (by rw [hx]; exact sv_eq _)⟩
 · cases ho
   split at h
   · cases h
     simp only [toV] at hx ⊢
     exact ⟨ha, PV.nilCheck hx⟩
   · cases h
     refine ⟨ha, ?_⟩
     simp only [toV] at hx ⊢
     unfold PV; intro w; simp [execOp, hx]
   · cases h
     refine ⟨ha, ?_⟩
     simp only [toV] at hx ⊢
     unfold PV; intro w; simp [execOp, hx]
   · cases h
 · cases ho
   split at h
   · split at h
     · rename_i off hoff
       cases h
       simp only [toV] at hx ⊢
       exact ⟨by simpa only [VV.lt] using ha, PV.fieldAddr hT hx hoff⟩
     · cases h
   · cases h
 · cases ho
   split at h
   · rename_i l
     simp only [toV] at hx
     simp only [VV.lt] at ha
     refine ⟨lts_nth ha h, PV.extract hx ?_⟩
     rw [List.getElem?_toArray, toVs_get, h]; rfl
   · cases h
 · cases ho
   split at h
   · cases h
     simp only [toV] at hx ⊢
     exact ⟨by simp [VV.lt], PV.not hx⟩
   · cases h
 · cases ho
   split at h
   · cases h
     simp only [toV] at hx ⊢
     refine ⟨by simp [VV.lt], ?_⟩
     unfold PV; intro w; simp [execOp, hx, Op.unary, Op.intArith]
   · cases h
 · cases ho
   split at h
   · rename_i e he
     have h1 := (tget_ok hT he).und
     cases hd : e.desc with
     | interface m => rw [hd] at h; cases h
     | _ =>
       rw [hd] at h h1
       cases h
       refine ⟨by simpa only [VV.lt] using ha, ?_⟩
       simp only [toV]
       unfold PV; intro w
       simp [execOp, hx, Instr.makeInterface, run_underlying h1]
   · cases h
 · cases h
def evPure (T : Tab) (N G : Nat) (f : Tr VV) (o : Op) : Option VV :=
 match o with
 | .pick c a b => (match evO N G f c with
   | some (.bool true) => evO N G f a
   | some (.bool false) => evO N G f b
   | _ => none)
 | .binOp op t x y _ => (match evO N G f x with
   | some a => (match evO N G f y with
     | some b => evBin T op t a b
     | none => none)
   | none => none)
 | .makeFunc fn a c => (match evOs N G f a.toList with
   | some fs => (match evOs N G f c.toList with
     | some cs => some (.fn fn fs cs)
     | none => none)
   | none => none)
 | o => (match opnd o with
   | some x => (match evO N G f x with
     | some a => un T o a
     | none => none)
   | none => none)
theorem evPure_ok (hT : T.ok P) (hS : Slots ρ D f fr) (hG : Glob Γ ρ D G) {o : Op} {v : VV} (h : evPure T N G f o = some v) : v.lt D ∧ PV P N fr ⟨dst, o, ty, pos, aft, gd⟩ (toV ρ v) := by
 unfold evPure at h
 split at h
 · split at h
   · rename_i hc
     obtain ⟨h1, h2⟩ := evO_ok hS hG h
     have h3 := (evO_ok hS hG hc).2
     simp only [toV] at h3
     exact ⟨h1, PV.pickT h3 (by rw [h2]; exact sv_eq _)⟩
   · rename_i hc
     obtain ⟨h1, h2⟩ := evO_ok hS hG h
     have h3 := (evO_ok hS hG hc).2
     simp only [toV] at h3
     exact ⟨h1, PV.pickF h3 (by rw [h2]; exact sv_eq _)⟩
   · cases h
 · split at h
   · rename_i a ha
     split at h
     · rename_i b hb
       exact evBin_ok hT (evO_ok hS hG ha).2 (evO_ok hS hG hb).2 h
     · cases h
   · cases h
 · split at h
   · rename_i fs hf
     split at h
     · rename_i cs hc
       cases h
       obtain ⟨h1, h2⟩ := evOs_ok hS hG hf
       obtain ⟨h3, h4⟩ := evOs_ok hS hG hc
       refine ⟨by simp only [VV.lt]; exact ⟨h1, h3⟩, ?_⟩
       simp only [toV]
       rw [← h2, ← h4]
       exact PV.makeFunc
     · cases h
   · cases h
 · split at h
   · rename_i x hx
     split at h
     · rename_i a ha
       obtain ⟨h1, h2⟩ := evO_ok hS hG ha
       exact un_ok hT hx h2 h1 h
     · cases h
   · cases h
end
end
end Go.Eng.Ev
namespace Go.Eng.Ev
noncomputable section
open Go Go.Eng
def Loc.add (ρ : Loc) (n b c : Nat) : Loc := ⟨fun k => if k = n then b else ρ.at_ k, fun k => if k = n then c else ρ.cap k, ρ.keep, ρ.good⟩
theorem Loc.add_ext (ρ : Loc) {D : Dom} {n : Nat} (hn : ¬ D n) (b c : Nat) : Ext D ρ (ρ.add n b c) := by
 have : ∀ k, D k → k ≠ n := fun k hk e => hn (e ▸ hk)
 exact ⟨⟨fun k hk => by simp [Loc.add, this k hk], fun k hk => by simp [Loc.add, this k hk], rfl⟩, rfl⟩
def Dom.add (D : Dom) (n : Nat) : Dom := fun b => D b ∨ b = n
theorem Dom.le_add (D : Dom) (n : Nat) : D.le (D.add n) := fun _ h => .inl h
theorem LayP.has {ρ : Loc} {D : Dom} {S : Nat → Bool → VO → Prop} {i : Imm} {L : SH} (hL : LayP ρ D S i L) {k : Nat} {fz : Bool} {vo : VO} (hk : S k fz vo) : D k ∧ vo.lt D ∧ ∃ o, Holds ρ k vo o ∧ Has i L (ρ.at_ k) o := by
 obtain ⟨h1, h2, o, h3, h4⟩ := hL.ok k fz vo hk
 refine ⟨h1, h2, o, h3, ?_⟩
 split at h4
 · exact Has.imm h4
 · exact .inr h4
theorem LayP.push {ρ : Loc} {D : Dom} {n : Nat} {S : Nat → Bool → VO → Prop} {i : Imm} {L : SH} (hL : LayP ρ D S i L) (hn : ¬ D n) {b c : Nat} {o : Obj} {vo : VO} (hnd : (((b, o) :: L).map Prod.fst).Nodup) (hlt : vo.lt (D.add n)) (ho : Holds (ρ.add n b c) n vo o) :
 LayP (ρ.add n b c) (D.add n) (fun k fz w => (k = n ∧ fz = false ∧ w = vo) ∨ (k ≠ n ∧ S k fz w)) i ((b, o) :: L) := by
 have hb : ∀ p ∈ L, p.1 ≠ b := by
  intro p hp e
  simp only [List.map_cons, List.nodup_cons] at hnd
  exact hnd.1 (List.mem_map.2 ⟨p, hp, e⟩)
 have hat : ∀ k, D k → (ρ.add n b c).at_ k = ρ.at_ k := fun k hk => (ρ.add_ext hn b c).at_ k hk
 have hn' : (ρ.add n b c).at_ n = b := by simp [Loc.add]
 refine ⟨fun k fz vo' hk => ?_, fun k k' vo1 vo2 hk hk' e => ?_, fun p hp => ?_⟩
 · rcases hk with ⟨rfl, rfl, rfl⟩ | ⟨hne, hk⟩
   · refine ⟨.inr rfl, hlt, o, ho, ?_⟩
     rw [hn']; simp
   · obtain ⟨h1, h2, o', h3, h4⟩ := hL.ok k fz vo' hk
     refine ⟨.inl h1, VO.lt_mono (D.le_add n) h2, o', h3.ext (ρ.add_ext hn b c) h1 h2, ?_⟩
     rw [hat k h1]
     split at h4
     · rename_i hf; rw [if_pos hf]; exact h4
     · rename_i hf; rw [if_neg hf]; exact List.mem_cons_of_mem _ h4
 · rcases hk with ⟨e1, -⟩ | ⟨_, g1⟩ <;> rcases hk' with ⟨e2, -⟩ | ⟨_, g2⟩
   · rw [e1, e2]
   · obtain ⟨h1, _, o', _, h4⟩ := hL.ok k' false vo2 g2
     rw [e1, hn', hat k' h1] at e
     exact absurd e.symm (hb _ (by simpa using h4))
   · obtain ⟨h1, _, o', _, h4⟩ := hL.ok k false vo1 g1
     rw [e2, hn', hat k h1] at e
     exact absurd e (hb _ (by simpa using h4))
   · obtain ⟨h1, _⟩ := hL.ok k false vo1 g1
     obtain ⟨h1', _⟩ := hL.ok k' false vo2 g2
     rw [hat k h1, hat k' h1'] at e
     exact hL.inj k k' vo1 vo2 g1 g2 e
 · obtain ⟨h1, h2⟩ := hL.frm p hp
   refine ⟨List.mem_cons_of_mem _ h1, fun k w hk e => ?_⟩
   rcases hk with ⟨rfl, -⟩ | ⟨_, g1⟩
   · rw [hn'] at e
     exact hb p h1 e.symm
   · obtain ⟨h3, _⟩ := hL.ok k false w g1
     rw [hat k h3] at e
     exact h2 k w g1 e
theorem set_sub {h : VH} {n : Nat} {vo : VO} (k : Nat) (fz : Bool) (w : VO) (hk : get k (set n (false, vo) h) = some (fz, w)) : (k = n ∧ fz = false ∧ w = vo) ∨ (k ≠ n ∧ get k h = some (fz, w)) := by
 rcases get_set hk with ⟨rfl, he⟩ | hk
 · cases he; exact .inl ⟨rfl, rfl, rfl⟩
 · exact .inr hk
theorem Lay.push {ρ : Loc} {D : Dom} {n : Nat} {h : VH} {i : Imm} {L : SH} (hL : Lay ρ D h i L) (hn : ¬ D n) {b c : Nat} {o : Obj} {vo : VO} (hnd : (((b, o) :: L).map Prod.fst).Nodup) (hlt : vo.lt (D.add n)) (ho : Holds (ρ.add n b c) n vo o) :
 Lay (ρ.add n b c) (D.add n) (set n (false, vo) h) i ((b, o) :: L) :=
 (LayP.push hL hn hnd hlt ho).sub set_sub
theorem Lay.put {ρ : Loc} {D : Dom} {h : VH} {i : Imm} {L : SH} (hL : Lay ρ D h i L) {k j : Nat} {vo vo' : VO} {o o' : Obj} (hk : get k h = some (false, vo)) (hj : L[j]? = some (ρ.at_ k, o)) (hlt : vo'.lt D) (ho : Holds ρ k vo' o') :
 Lay ρ D (set k (false, vo') h) i (L.set j (ρ.at_ k, o')) := by
 have hjl : j < L.length := (List.getElem?_eq_some_iff.1 hj).1
 have back : ∀ q w, get q (set k (false, vo') h) = some (false, w) → ∃ w', get q h = some (false, w') := fun q w hq => by
  rcases get_set hq with ⟨rfl, -⟩ | ⟨_, hq⟩
  · exact ⟨vo, hk⟩
  · exact ⟨w, hq⟩
 have stay : ∀ (p : Nat × Obj), p ∈ L → p.1 ≠ ρ.at_ k → p ∈ L.set j (ρ.at_ k, o') := fun p hp hne => by
  obtain ⟨q, hq⟩ := List.getElem?_of_mem hp
  have hqj : q ≠ j := by
   rintro rfl
   rw [hq] at hj
   exact hne (congrArg Prod.fst (Option.some.inj hj))
  exact List.mem_of_getElem? ((List.getElem?_set_ne (by omega)).trans hq)
 refine ⟨fun m fz vo1 hm => ?_, fun m m' vo1 vo2 hm hm' e => ?_, fun p hp => ?_⟩
 · rcases get_set hm with ⟨rfl, he⟩ | ⟨hne, hm⟩
   · cases he
     refine ⟨(hL.ok _ _ _ hk).1, hlt, o', ho, ?_⟩
     simp only [Bool.false_eq_true, if_false]
     exact List.mem_of_getElem? (List.getElem?_set_self hjl)
   · obtain ⟨h1, h2, o1, h3, h4⟩ := hL.ok m fz vo1 hm
     refine ⟨h1, h2, o1, h3, ?_⟩
     split at h4
     · rename_i hf; rw [if_pos hf]; exact h4
     · rename_i hf
       rw [if_neg hf]
       have hf' : fz = false := by simpa using hf
       subst hf'
       exact stay _ h4 fun e => hne (hL.inj m k vo1 vo hm hk e)
 · obtain ⟨w1, g1⟩ := back m vo1 hm
   obtain ⟨w2, g2⟩ := back m' vo2 hm'
   exact hL.inj m m' w1 w2 g1 g2 e
 · obtain ⟨h1, h2⟩ := hL.frm p hp
   exact ⟨stay p h1 fun e => h2 k vo hk e.symm, fun q w hq => by obtain ⟨w', g⟩ := back q w hq; exact h2 q w' g⟩
theorem Lay.own {ρ : Loc} {D : Dom} {h : VH} {i : Imm} {L : SH} (hL : Lay ρ D h i L) {k : Nat} {vo : VO} (hk : get k h = some (false, vo)) : ∃ (o : Obj) (j : Nat), Holds ρ k vo o ∧ L[j]? = some (ρ.at_ k, o) := by
 obtain ⟨_, _, o, h3, h4⟩ := hL.ok k false vo hk
 obtain ⟨j, hj⟩ := List.getElem?_of_mem (show (ρ.at_ k, o) ∈ L by simpa using h4)
 exact ⟨o, j, h3, hj⟩
def takeN {α : Type} : Nat → List α → Option (List α)
 | 0, _ => some []
 | _ + 1, [] => none
 | k + 1, a :: l => match takeN k l with
   | some r => some (a :: r)
   | none => none
def dropN {α : Type} : Nat → List α → List α
 | 0, l => l
 | _ + 1, [] => []
 | k + 1, _ :: l => dropN k l
theorem takeN_ok {α : Type} : ∀ {k : Nat} {l r : List α}, takeN k l = some r → r = l.take k ∧ r.length = k
 | 0, l, r, h => by cases h; simp
 | k + 1, [], r, h => by cases h
 | k + 1, a :: l, r, h => by
   simp only [takeN] at h
   split at h
   · rename_i q hq
     cases h
     obtain ⟨h1, h2⟩ := takeN_ok hq
     exact ⟨by rw [h1]; rfl, by simp [h2]⟩
   · cases h
theorem dropN_eq {α : Type} : ∀ (k : Nat) (l : List α), dropN k l = l.drop k
 | 0, l => rfl
 | _ + 1, [] => rfl
 | k + 1, _ :: l => by rw [dropN, dropN_eq k l]; rfl
def rdAt (T : Tab) (t : Nat) (l : List VV) (o : Nat) : Option VV :=
 match tget T t with
 | some e => bif isAggD e.desc then (match takeN e.size (dropN o l) with | some r => some (.agg r) | none => none) else nth l o
 | none => none
section
variable {Γ : Tab → Plans → Code → Prop} {ρ : Loc} {D : Dom} {N G : Nat} {f : Tr VV} {h : VH} {fr : Fr} {P : Program} {T : Tab} {i : Imm} {L : SH} {dst : Option Nat} {ty : TypeId} {pos : String} {aft : Array Edge} {gd : Option (Nat × Bool)}
theorem rdAt_ok (hT : T.ok P) {t k o : Nat} {l : List VV} {sp : List Value} {ty' : Nat} {fz : Nat × Nat} {x : Operand} {v : VV} (hv : rdAt T t l o = some v) (hx : ev N fr x = .pointer (some ⟨ρ.at_ k, o, none⟩)) (hl : VV.lts D l)
 (hb : Has i L (ρ.at_ k) (.cells (toVs ρ l ++ sp).toArray ty' fz)) : v.lt D ∧ LV P N fr i L ⟨dst, .load t x, ty, pos, aft, gd⟩ (toV ρ v) := by
 unfold rdAt at hv
 split at hv
 · rename_i e he
   cases ha : isAggD e.desc with
   | true =>
     rw [ha] at hv
     simp only [cond_true] at hv
     split at hv
     · rename_i r hr
       cases hv
       obtain ⟨h1, h2⟩ := takeN_ok hr
       rw [dropN_eq] at h1
       refine ⟨?_, ?_⟩
       · simp only [VV.lt]
         exact VV.lts_iff.2 fun v hv => VV.lts_iff.1 hl v (List.mem_of_mem_drop (List.mem_of_mem_take (by rw [← h1]; exact hv)))
       · simp only [toV]
         refine LV.loadL hT hx hb he ha (by rw [toVs_len, h2]) fun j u hj => ?_
         rw [toVs_map, List.getElem?_map, h1, List.getElem?_take] at hj
         split at hj
         · rw [List.getElem?_drop] at hj
           cases hg : l[o + j]? with
           | none => rw [hg] at hj; cases hj
           | some c =>
             rw [hg] at hj
             cases hj
             have hlt := (List.getElem?_eq_some_iff.1 hg).1
             rw [List.getElem?_append_left (by rw [toVs_len]; exact hlt), toVs_map, List.getElem?_map, hg]; rfl
         · cases hj
     · cases hv
   | false =>
     rw [ha] at hv
     simp only [cond_false] at hv
     refine ⟨lts_nth hl hv, LV.load1 hT hx hb (by unfold tIs; rw [he]; simp [ha]) ?_⟩
     have hg : l[o]? = some v := by rw [← nth_eq]; exact hv
     have hlt := (List.getElem?_eq_some_iff.1 hg).1
     rw [List.getElem?_append_left (by rw [toVs_len]; exact hlt), toVs_map, List.getElem?_map, hg]; rfl
 · cases hv
def rowOf : Option (Bool × VO) → Option (List VV)
 | some (_, .cells l _ _) => some l
 | some (_, .row l _ _) => some l
 | _ => none
theorem rowOf_ok {S : Nat → Bool → VO → Prop} (hL : LayP ρ D S i L) {k : Nat} {x : Option (Bool × VO)} {l : List VV} (hk : ∀ fz vo, x = some (fz, vo) → S k fz vo) (h : rowOf x = some l) : VV.lts D l ∧ ∃ (sp : List Value) (ty : Nat) (fz : Nat × Nat), Has i L (ρ.at_ k) (.cells (toVs ρ l ++ sp).toArray ty fz) := by
 unfold rowOf at h
 split at h
 · cases h
   obtain ⟨_, h4, ob, ⟨sp, rfl, _⟩, h6⟩ := hL.has (hk _ _ rfl)
   exact ⟨h4, sp, _, _, h6⟩
 · cases h
   obtain ⟨_, h4, ob, ⟨sp, fz, rfl, _⟩, h6⟩ := hL.has (hk _ _ rfl)
   exact ⟨h4, sp, _, _, h6⟩
 · cases h
def evRead (T : Tab) (N G : Nat) (f : Tr VV) (h : VH) (o : Op) : Option VV :=
 match o with
 | .load t x => (match evO N G f x with
   | some (.ptr k off) => (match rowOf (get k h) with
     | some l => rdAt T t l off
     | none => none)
   | _ => none)
 | _ => none
theorem evRead_ok (hT : T.ok P) (hS : Slots ρ D f fr) (hG : Glob Γ ρ D G) (hL : Lay ρ D h i L) {o : Op} {v : VV} (hv : evRead T N G f h o = some v) : v.lt D ∧ LV P N fr i L ⟨dst, o, ty, pos, aft, gd⟩ (toV ρ v) := by
 unfold evRead at hv
 split at hv
 · split at hv
   · rename_i k off hx
     split at hv
     · rename_i l hk
       obtain ⟨_, h2⟩ := evO_ok hS hG hx
       simp only [toV] at h2
       obtain ⟨h4, sp, ty', fz, h6⟩ := rowOf_ok (k := k) hL (fun _ _ e => e) hk
       exact rdAt_ok hT hv h2 h4 h6
     · cases hv
   · cases hv
 · cases hv
end
end
end Go.Eng.Ev
namespace Go.Eng.Ev
noncomputable section
open Go Go.Eng
def ofCs : List Value → Option (List VV)
 | [] => some []
 | v :: l => match ofC v with
   | some u => match ofCs l with
     | some r => some (u :: r)
     | none => none
   | none => none
theorem ofCs_ok (ρ : Loc) (D : Dom) : ∀ {l : List Value} {r : List VV}, ofCs l = some r → VV.lts D r ∧ toVs ρ r = l
 | [], r, h => by cases h; simp [VV.lts, toVs]
 | v :: l, r, h => by
   simp only [ofCs] at h
   split at h
   · rename_i u hu
     split at h
     · rename_i q hq
       cases h
       obtain ⟨h1, h2⟩ := ofC_ok hu ρ D
       obtain ⟨h3, h4⟩ := ofCs_ok ρ D hq
       exact ⟨by simp only [VV.lts]; exact ⟨h1, h3⟩, by simp only [toVs, h2, h4]⟩
     · cases h
   · cases h
def cellsV : VV → Option (List VV)
 | .agg l => some l
 | .tup _ => none
 | v => some [v]
theorem cellsV_ok {ρ : Loc} {D : Dom} {v : VV} {l : List VV} (h : cellsV v = some l) (hl : v.lt D) : VV.lts D l ∧ cellsL (toV ρ v) = some (toVs ρ l) := by
 cases v <;> cases h
 all_goals first
  | (simp only [VV.lt] at hl; exact ⟨hl, by simp [toV, cellsL]⟩)
  | exact ⟨by simp only [VV.lts]; exact ⟨hl, trivial⟩, by simp only [toV, toVs, cellsL]⟩
  | exact ⟨by simp only [VV.lts]; exact ⟨by simp only [VV.lt], trivial⟩, by simp only [toV, toVs, cellsL]⟩
def oneV : VV → Bool
 | .agg _ => false
 | .tup _ => false
 | _ => true
theorem oneV_ok {ρ : Loc} {v : VV} (h : oneV v = true) : (toV ρ v).oneCell' = true := by
 cases v <;> first | (cases h; done) | (simp only [toV]; rfl)
def putN : List VV → Nat → List VV → Option (List VV)
 | l, 0, [] => some l
 | _ :: l, 0, v :: vs => (match putN l 0 vs with
   | some r => some (v :: r)
   | none => none)
 | a :: l, o + 1, vs => (match putN l o vs with
   | some r => some (a :: r)
   | none => none)
 | [], _, _ => none
theorem putN_ok : ∀ {l vs r : List VV} {o : Nat}, putN l o vs = some r → o + vs.length ≤ l.length ∧ r = l.take o ++ vs ++ l.drop (o + vs.length)
 | [], [], r, 0, h => by cases h; simp
 | a :: l, [], r, 0, h => by cases h; simp
 | [], v :: vs, r, 0, h => by cases h
 | _ :: l, v :: vs, r, 0, h => by
   simp only [putN] at h
   split at h
   · rename_i q hq
     cases h
     obtain ⟨h1, h2⟩ := putN_ok hq
     refine ⟨by simp only [List.length_cons]; omega, ?_⟩
     rw [h2]
     simp only [List.take_zero, List.nil_append, List.length_cons, Nat.zero_add, List.cons_append, List.drop_succ_cons]
   · cases h
 | a :: l, vs, r, o + 1, h => by
   simp only [putN] at h
   split at h
   · rename_i q hq
     cases h
     obtain ⟨h1, h2⟩ := putN_ok hq
     refine ⟨by simp only [List.length_cons]; omega, ?_⟩
     rw [h2, show o + 1 + vs.length = (o + vs.length) + 1 by omega]
     simp only [List.take_succ_cons, List.drop_succ_cons, List.cons_append]
   · cases h
 | [], vs, r, o + 1, h => by cases vs <;> cases h
structure Eff where
 v : Option VV
 h : VH
 n : Nat
section
variable {Γ : Tab → Plans → Code → Prop} {ρ : Loc} {D : Dom} {n N G : Nat} {f : Tr VV} {h : VH} {fr : Fr} {P : Program} {T : Tab} {i : Imm} {L : SH} {dst : Option Nat} {ty : TypeId} {pos : String} {aft : Array Edge} {gd : Option (Nat × Bool)}
def Dom.upto (D : Dom) (n m : Nat) : Dom := fun b => D b ∨ (n ≤ b ∧ b < m)
theorem Dom.le_upto (D : Dom) (n m : Nat) : D.le (D.upto n m) := fun _ h => .inl h
def Fresh (D : Dom) (n : Nat) : Prop := ∀ b, D b → b < n
theorem Fresh.not {D : Dom} {n : Nat} (h : Fresh D n) : ¬ D n := fun k => Nat.lt_irrefl _ (h n k)
theorem Fresh.upto {D : Dom} {n m : Nat} (h : Fresh D n) (hm : n ≤ m) : Fresh (D.upto n m) m := fun b hb => hb.elim (fun k => Nat.lt_of_lt_of_le (h b k) hm) And.right
def Post (ρ : Loc) (D : Dom) (n : Nat) (e : Eff) (u : Value) (i' : Imm) (L' : SH) : Prop :=
 ∃ ρ', Ext D ρ ρ' ∧ n ≤ e.n ∧ Lay ρ' (D.upto n e.n) e.h i' L' ∧ ∀ v, e.v = some v → v.lt (D.upto n e.n) ∧ u = toV ρ' v
theorem add_upto (D : Dom) (n : Nat) : (D.add n).le (D.upto n (n + 1)) := fun b hb => hb.imp id fun e => by omega
def NewP (ρ : Loc) (D : Dom) (r : Nat) (v : VV) (vo : VO) (i : Imm) (L : SH) (u : Value) (i' : Imm) (L' : SH) : Prop :=
 i' = i ∧ v.lt (D.add r) ∧ vo.lt (D.add r) ∧ ∃ b ob c, L' = (b, ob) :: L ∧ u = toV (ρ.add r b c) v ∧ Holds (ρ.add r b c) r vo ob
theorem new_of {o : Oper} {mk : Nat → Value} {ob : Obj} {vo : VO} {v : VV} {c : Nat}
 (hop : OpS P N o fr i L fun u i' L' => ∃ b, u = mk b ∧ i' = i ∧ L' = (b, ob) :: L) (hlt : vo.lt (D.add n)) (hvl : v.lt (D.add n)) (ho : ∀ b, Holds (ρ.add n b c) n vo ob) (hv : ∀ b, mk b = toV (ρ.add n b c) v) :
 OpS P N o fr i L (NewP ρ D n v vo i L) := by
 refine OpS.mono hop ?_
 rintro u i' L' _ ⟨b, rfl, rfl, rfl⟩
 exact ⟨rfl, hvl, hlt, b, ob, c, rfl, hv b, ho b⟩
theorem new_push (hL : Lay ρ D h i L) (hD : ¬ D n) {o : Oper} {vo : VO} {v : VV} (hop : OpS P N o fr i L (NewP ρ D n v vo i L)) :
 OpS P N o fr i L (Post ρ D n ⟨some v, set n (false, vo) h, n + 1⟩) := by
 refine OpS.state hop ?_
 rintro u i' L' w _ hst ⟨rfl, hvl, hlt, b, ob, c, rfl, hu, ho⟩
 refine ⟨i', _, Imm.le.refl i', hst, ρ.add n b c, ρ.add_ext hD b c, Nat.le_succ n, (Lay.push hL hD hst.nodup hlt ho).mono (add_upto D n), fun v' hv' => ?_⟩
 cases hv'
 exact ⟨VV.lt_mono (add_upto D n) _ hvl, hu⟩
def evAlloc (T : Tab) (t n : Nat) : Option (VV × VO) :=
 match zeroL T t with
 | some zs => (match ofCs zs with
   | some l => some (.ptr n 0, .cells l t l.length)
   | none => none)
 | none => none
theorem evAlloc_ok (hT : T.ok P) (hD : ¬ D n) {t : Nat} {v : VV} {vo : VO} (he : evAlloc T t n = some (v, vo)) : OpS P N ⟨dst, .alloc t, ty, pos, aft, gd⟩ fr i L (NewP ρ D n v vo i L) := by
 unfold evAlloc at he
 split at he
 · rename_i zs hz
   split at he
   · rename_i l hl
     cases he
     refine new_of (mk := fun b => .pointer (some ⟨b, 0, none⟩)) (ob := .cells zs.toArray t (0, 0)) (c := 1) (OpS.alloc hT hz fun b => ⟨b, rfl, rfl, rfl⟩) ?_ (by simp [VV.lt, Dom.add]) (fun b => ⟨[], ?_, ?_⟩) fun b => ?_
     · exact (ofCs_ok ρ (D.add n) hl).1
     · rw [List.append_nil, (ofCs_ok (ρ.add n b 1) D hl).2]
     · simp [Loc.add]
     · simp [toV, Loc.add]
   · cases he
 · cases he
def evBox (N G : Nat) (f : Tr VV) (t : Nat) (x : Operand) (n : Nat) : Option (VV × VO) :=
 match evO N G f x with
 | some v => (match cellsV v with
   | some l => some (.ptr n 0, .cells l t l.length)
   | none => none)
 | none => none
theorem evBox_ok (hS : Slots ρ D f fr) (hG : Glob Γ ρ D G) (hD : ¬ D n) {t : Nat} {x : Operand} {v : VV} {vo : VO} (he : evBox N G f t x n = some (v, vo)) : OpS P N ⟨dst, .box t x, ty, pos, aft, gd⟩ fr i L (NewP ρ D n v vo i L) := by
 unfold evBox at he
 split at he
 · rename_i u hv
   obtain ⟨h1, h2⟩ := evO_ok hS hG hv
   split at he
   · rename_i l hl
     cases he
     obtain ⟨h3, h4⟩ := cellsV_ok (ρ := ρ) hl h1
     refine new_of (mk := fun b => .pointer (some ⟨b, 0, none⟩)) (ob := .cells (toVs ρ l).toArray t (0, 0)) (c := 1) (OpS.box (by rw [h2]; exact h4) fun b => ⟨b, rfl, rfl, rfl⟩) ?_ (by simp [VV.lt, Dom.add]) (fun b => ⟨[], ?_, ?_⟩) fun b => ?_
     · exact VV.lts_mono (D.le_add n) l h3
     · rw [List.append_nil, toVs_ext (ρ.add_ext hD b 1) l h3]
     · simp [Loc.add]
     · simp [toV, Loc.add]
   · cases he
 · cases he
def evStore (T : Tab) (N G : Nat) (f : Tr VV) (t : Nat) (x y : Operand) (h : VH) (n : Nat) : Option Eff :=
 match evO N G f x with
 | some (.ptr k o) => (match evO N G f y with
   | some v => (match cellsV v with
     | some vs => (match get k h with
       | some (false, .cells l ty' sz) => (match tget T t with
         | some e => bif Nat.beq vs.length e.size && vs.all oneV then (match putN l o vs with
           | some l' => some ⟨none, set k (false, .cells l' ty' sz) h, n⟩
           | none => none) else none
         | none => none)
       | _ => none)
     | none => none)
   | none => none)
 | _ => none
theorem evStore_ok (hT : T.ok P) (hS : Slots ρ D f fr) (hG : Glob Γ ρ D G) (hL : Lay ρ D h i L) (hD : Fresh D n) {t : Nat} {x y : Operand} {e : Eff} (he : evStore T N G f t x y h n = some e) : OpS P N ⟨dst, .store t x y, ty, pos, aft, gd⟩ fr i L (Post ρ D n e) := by
 unfold evStore at he
 split at he
 · rename_i k o hx
   split at he
   · rename_i v hv
     split at he
     · rename_i vs hvs
       split at he
       · rename_i l ty' sz hk
         split at he
         · rename_i te hte
           cases hb : (Nat.beq vs.length te.size && vs.all oneV) with
           | false => rw [hb] at he; cases he
           | true =>
             rw [hb] at he
             simp only [cond_true] at he
             split at he
             · rename_i l' hl'
               cases he
               obtain ⟨_, h2⟩ := evO_ok hS hG hx
               obtain ⟨h3, h4⟩ := evO_ok hS hG hv
               obtain ⟨h5, h6⟩ := cellsV_ok (ρ := ρ) hvs h3
               obtain ⟨ob, j, ⟨sp, rfl, hlen⟩, hj⟩ := Lay.own hL hk
               obtain ⟨h7, h8⟩ := putN_ok hl'
               simp only [Bool.and_eq_true] at hb
               simp only [toV] at h2
               have hlt : VV.lts D l' := by
                have hll := (hL.ok _ _ _ hk).2.1
                refine VV.lts_iff.2 fun u hu => ?_
                rw [h8, List.mem_append, List.mem_append] at hu
                rcases hu with (hu | hu) | hu
                · exact VV.lts_iff.1 hll u (List.mem_of_mem_take hu)
                · exact VV.lts_iff.1 h5 u hu
                · exact VV.lts_iff.1 hll u (List.mem_of_mem_drop hu)
               have hlen' : l'.length = l.length := by rw [h8]; simp; omega
               refine OpS.store hT (cs := toVs ρ l ++ sp) (cs' := toVs ρ l' ++ sp) (vs := toVs ρ vs) (k := j) h2 h4 h6 hj ?_ ?_ (setX_some _ _ _ _ hj) ?_
               · unfold okStore
                 rw [hte]
                 simp only [toVs_len, hb.1, Bool.true_and]
                 rw [List.all_eq_true]
                 intro u hu
                 rw [toVs_map] at hu
                 obtain ⟨q, hq, rfl⟩ := List.mem_map.1 hu
                 exact oneV_ok (List.all_eq_true.1 hb.2 q hq)
               · rw [putAt_some _ _ _ (by rw [List.length_append, toVs_len, toVs_len]; omega)]
                 congr 1
                 rw [h8]
                 simp only [toVs_map, List.map_append, List.map_take, List.map_drop, List.length_map]
                 rw [List.take_append_of_le_length (by rw [List.length_map]; omega), List.drop_append_of_le_length (by rw [List.length_map]; omega), List.append_assoc, List.append_assoc, List.append_assoc]
               · exact ⟨ρ, Ext.refl D ρ, Nat.le_refl n, (Lay.put hL (vo' := .cells l' ty' sz) hk hj hlt ⟨sp, rfl, by rw [hlen']; exact hlen⟩).mono (D.le_upto n n), fun v hv => by cases hv⟩
             · cases he
         · cases he
       · cases he
     · cases he
   · cases he
 · cases he
theorem post_val (hL : Lay ρ D h i L) {v : VV} (hv : v.lt D) : Post ρ D n ⟨some v, h, n⟩ (toV ρ v) i L :=
 ⟨ρ, Ext.refl D ρ, Nat.le_refl n, hL.mono (D.le_upto n n), fun v' hv' => by cases hv'; exact ⟨VV.lt_mono (D.le_upto n n) _ hv, rfl⟩⟩
end
end
end Go.Eng.Ev
namespace Go.Eng.Ev
noncomputable section
open Go Go.Eng
section
variable {Γ : Tab → Plans → Code → Prop} {ρ : Loc} {D : Dom} {N G : Nat} {f : Tr VV} {fr : Fr} {P : Program} {T : Tab} {dst : Option Nat} {ty : TypeId} {pos : String} {aft : Array Edge} {gd : Option (Nat × Bool)}
def inR (j : Int) (l : Nat) : Bool := match j with
 | .ofNat k => Nat.blt k l
 | .negSucc _ => false
theorem inR_ok {j : Int} {l : Nat} (h : inR j l = true) : 0 ≤ j ∧ j < l := by
 cases j with
 | ofNat k =>
   have : k < l := by simpa [inR, Nat.blt_eq] using h
   exact ⟨Int.natCast_nonneg k, by show ((k : Nat) : Int) < l; omega⟩
 | negSucc k => cases h
def ixAddr (T : Tab) (t : Nat) (a b : VV) : Option VV :=
 match a, b with
 | .sl k o len _, .int _ j => (match elSz T t with
   | some sz => bif inR j len then some (.ptr k (o + j.toNat * sz)) else none
   | none => none)
 | .ptr k o, .int _ j => (match arSz T t with
   | some (l, sz) => bif inR j l then some (.ptr k (o + j.toNat * sz)) else none
   | none => none)
 | _, _ => none
theorem ixAddr_ok (hT : T.ok P) {t : Nat} {x y : Operand} {a b v : VV} (hx : ev N fr x = toV ρ a) (ha : a.lt D) (hy : ev N fr y = toV ρ b) (h : ixAddr T t a b = some v) : v.lt D ∧ PV P N fr ⟨dst, .indexAddr t x y, ty, pos, aft, gd⟩ (toV ρ v) := by
 unfold ixAddr at h
 split at h
 · split at h
   · rename_i sz hs
     simp only [toV] at hx hy
     rename_i k o len c kk j _
     cases hb : inR j len with
     | false => rw [hb] at h; cases h
     | true =>
       rw [hb] at h; cases h
       refine ⟨by simpa only [VV.lt] using ha, ?_⟩
       simp only [toV]
       exact PV.indexAddr hT hx hy hs (inR_ok hb)
   · cases h
 · split at h
   · rename_i l sz hs
     simp only [toV] at hx hy
     rename_i k o kk j _
     cases hb : inR j l with
     | false => rw [hb] at h; cases h
     | true =>
       rw [hb] at h; cases h
       refine ⟨by simpa only [VV.lt] using ha, ?_⟩
       simp only [toV]
       exact PV.indexAddrA hT hx hy hs (inR_ok hb)
   · cases h
 · cases h
def ixAt (T : Tab) (t : Nat) (a b : VV) : Option VV :=
 match a, b with
 | .str s, .int _ j => bif tIs T isStrD t && inR j s.length then (match nth s j.toNat with
   | some c => some (.int .u8 ((Nat.mod c 256 : Nat) : Int))
   | none => none) else none
 | _, _ => none
theorem ixAt_ok (hT : T.ok P) {t : Nat} {x y : Operand} {a b v : VV} (hx : ev N fr x = toV ρ a) (hy : ev N fr y = toV ρ b) (h : ixAt T t a b = some v) : v.lt D ∧ PV P N fr ⟨dst, .index t x y, ty, pos, aft, gd⟩ (toV ρ v) := by
 unfold ixAt at h
 split at h
 · rename_i s k j
   cases hb : (tIs T isStrD t && inR j s.length) with
   | false => rw [hb] at h; cases h
   | true =>
     rw [hb] at h
     simp only [cond_true] at h
     simp only [Bool.and_eq_true] at hb
     split at h
     · rename_i c hc
       cases h
       simp only [toV] at hx hy ⊢
       refine ⟨by simp only [VV.lt], ?_⟩
       have hg : (bytesOf s)[j.toNat]? = some (UInt8.ofNat c) := by
        rw [nth_eq] at hc
        obtain ⟨hlt, hc'⟩ := List.getElem?_eq_some_iff.1 hc
        have hlt' : j.toNat < (bytesOf s).size := by rw [bytesOf_size]; exact hlt
        rw [getElem?_pos (bytesOf s) j.toNat hlt']
        congr 1
        show (bytesOf s).data[j.toNat] = _
        simp [bytesOf, hc']
       have := PV.indexS (dst := dst) (ty := ty) (pos := pos) (aft := aft) (gd := gd) hT hx hy hb.1 (inR_ok hb.2).1 hg
       have e : (UInt8.ofNat c).toNat = Nat.mod c 256 := by simp; rfl
       rw [e] at this
       exact this
     · cases h
 · cases h
def lenV (T : Tab) (t : Nat) (a : VV) : Option VV :=
 match a with
 | .str s => bif tIs T isStrD t then some (.int .i64 (s.length : Int)) else none
 | .nils => bif tIs T isSlD t then some (.int .i64 ((0 : Nat) : Int)) else none
 | .sl _ _ l _ => bif tIs T isSlD t then some (.int .i64 (l : Int)) else none
 | .sle _ _ _ _ => bif tIs T isSlD t then some (.int .i64 ((0 : Nat) : Int)) else none
 | _ => none
theorem lenV_ok (hT : T.ok P) {t : Nat} {x : Operand} {a v : VV} (hx : ev N fr x = toV ρ a) (h : lenV T t a = some v) : v.lt D ∧ PV P N fr ⟨dst, .call ⟨.builtin .len, #[x], #[t]⟩, ty, pos, aft, gd⟩ (toV ρ v) := by
 unfold lenV at h
 split at h
 · rename_i s
   cases hb : tIs T isStrD t with
   | false => rw [hb] at h; cases h
   | true =>
     rw [hb] at h; cases h
     simp only [toV] at hx ⊢
     have := PV.lenT (dst := dst) (ty := ty) (pos := pos) (aft := aft) (gd := gd) hT hb hx
     rw [bytesOf_size] at this
     exact ⟨by simp only [VV.lt], this⟩
 all_goals first | (cases h; done) | skip
 all_goals
  cases hb : tIs T isSlD t with
  | false => rw [hb] at h; cases h
  | true =>
    rw [hb] at h; cases h
    simp only [toV] at hx ⊢
    exact ⟨by simp only [VV.lt], PV.lenS hT hb hx⟩
end
end
end Go.Eng.Ev
namespace Go.Eng.Ev
noncomputable section
open Go Go.Eng
section
variable {Γ : Tab → Plans → Code → Prop} {ρ : Loc} {D : Dom} {n N G : Nat} {f : Tr VV} {h : VH} {fr : Fr} {P : Program} {T : Tab} {i : Imm} {L : SH} {dst : Option Nat} {ty : TypeId} {pos : String} {aft : Array Edge} {gd : Option (Nat × Bool)}
def partsV (N G : Nat) (f : Tr VV) : List (Nat × Operand) → Option (List (Nat × List VV))
 | [] => some []
 | (k, x) :: l => (match evO N G f x with
   | some v => (match cellsV v with
     | some vs => (match partsV N G f l with
       | some r => some ((k, vs) :: r)
       | none => none)
     | none => none)
   | none => none)
theorem partsV_ok (hS : Slots ρ D f fr) (hG : Glob Γ ρ D G) : ∀ {l : List (Nat × Operand)} {r : List (Nat × List VV)}, partsV N G f l = some r → (∀ p ∈ r, VV.lts D p.2) ∧ evParts N fr l = some (r.map fun p => (p.1, toVs ρ p.2))
 | [], r, h => by cases h; exact ⟨(fun p hp => by cases hp), rfl⟩
 | (k, x) :: l, r, h => by
   simp only [partsV] at h
   split at h
   · rename_i v hv
     split at h
     · rename_i vs hvs
       split at h
       · rename_i q hq
         cases h
         obtain ⟨h1, h2⟩ := evO_ok hS hG hv
         obtain ⟨h3, h4⟩ := cellsV_ok (ρ := ρ) hvs h1
         obtain ⟨h5, h6⟩ := partsV_ok hS hG hq
         refine ⟨fun p hp => ?_, ?_⟩
         · rcases List.mem_cons.1 hp with rfl | hp
           · exact h3
           · exact h5 p hp
         · simp only [evParts, h2, h4, h6, List.map_cons]
       · cases h
     · cases h
   · cases h
def flatV : Nat → Nat → List (Nat × List VV) → Option (List VV)
 | _, _, [] => some []
 | sz, k, (j, vs) :: ps => bif Nat.beq j k && Nat.beq vs.length sz then (match flatV sz (k + 1) ps with
   | some r => some (vs ++ r)
   | none => none) else none
theorem catX_some : ∀ l r : List Value, flat.catX l r = some (l ++ r)
 | [], r => rfl
 | a :: l, r => by simp only [flat.catX, catX_some l r, List.cons_append]
theorem flatV_ok {sz : Nat} : ∀ {ps : List (Nat × List VV)} {k : Nat} {r : List VV}, flatV sz k ps = some r → (∀ p ∈ ps, VV.lts D p.2) → VV.lts D r ∧ r.length = ps.length * sz ∧ flat sz k (ps.map fun p => (p.1, toVs ρ p.2)) = some (toVs ρ r)
 | [], k, r, h, _ => by cases h; exact ⟨trivial, by simp, by simp [flat, toVs]⟩
 | (j, vs) :: ps, k, r, h, hl => by
   simp only [flatV] at h
   cases hb : (Nat.beq j k && Nat.beq vs.length sz) with
   | false => rw [hb] at h; cases h
   | true =>
     rw [hb] at h
     simp only [cond_true] at h
     split at h
     · rename_i q hq
       cases h
       obtain ⟨h1, h2, h3⟩ := flatV_ok hq fun p hp => hl p (List.mem_cons_of_mem _ hp)
       have h0 := hl (j, vs) (List.mem_cons_self ..)
       simp only [Bool.and_eq_true] at hb
       have hlen := Nat.eq_of_beq_eq_true hb.2
       refine ⟨VV.lts_iff.2 fun v hv => ?_, ?_, ?_⟩
       · rcases List.mem_append.1 hv with hv | hv
         · exact VV.lts_iff.1 h0 v hv
         · exact VV.lts_iff.1 h1 v hv
       · rw [List.length_append, h2, hlen, List.length_cons, Nat.succ_mul]; omega
       · simp only [List.map_cons, flat, toVs_len, hb.1, hb.2, Bool.and_self, cond_true, h3, catX_some]
         simp only [toVs_map, List.map_append]
     · cases h
def evBuildSlice (T : Tab) (N G : Nat) (f : Tr VV) (t len : Nat) (parts : List (Nat × Operand)) (n : Nat) : Option (VV × VO) :=
 match tget T t with
 | some ⟨.slice e, _, _, _⟩ => (match tget T e with
   | some x => (match partsV N G f parts with
     | some ps => bif Nat.beq ps.length len && Nat.blt 0 x.size && Nat.ble (len * x.size) 16777216 then (match flatV x.size 0 ps with
       | some cs => some (.sl n 0 len (.fix len), .cells cs e x.size)
       | none => none) else none
     | none => none)
   | none => none)
 | _ => none
theorem evBuildSlice_ok (hT : T.ok P) (hS : Slots ρ D f fr) (hG : Glob Γ ρ D G) (hD : ¬ D n) {t len : Nat} {parts : Array (Nat × Operand)} {v : VV} {vo : VO} (he : evBuildSlice T N G f t len parts.toList n = some (v, vo)) :
 OpS P N ⟨dst, .buildSlice t len parts, ty, pos, aft, gd⟩ fr i L (NewP ρ D n v vo i L) := by
 unfold evBuildSlice at he
 split at he
 · rename_i e0 _ _ _ ht
   split at he
   · rename_i x hx
     split at he
     · rename_i ps hps
       cases hb : (Nat.beq ps.length len && Nat.blt 0 x.size && Nat.ble (len * x.size) 16777216) with
       | false => rw [hb] at he; cases he
       | true =>
         rw [hb] at he
         simp only [cond_true] at he
         split at he
         · rename_i cs hcs
           cases he
           obtain ⟨h1, h2⟩ := partsV_ok hS hG hps
           obtain ⟨h3, h4, h5⟩ := flatV_ok (ρ := ρ) hcs h1
           have hb' := hb
           simp only [Bool.and_eq_true] at hb'
           have hlen : ps.length = len := Nat.eq_of_beq_eq_true hb'.1.1
           have hbsl : bsl T N fr t len parts.toList = some (e0, toVs ρ cs) := by
            unfold bsl
            simp only [ht, hx, h2, List.length_map, hb, cond_true, h5]
           refine new_of (mk := fun b => .slice (some ⟨b, 0, none⟩) len len) (ob := .cells (toVs ρ cs).toArray e0 (0, 0)) (c := len) (OpS.buildSlice hT hbsl fun b => ⟨b, rfl, rfl, rfl⟩) ?_ (by simp [VV.lt, Dom.add]) (fun b => ⟨[], ?_, ?_⟩) fun b => ?_
           · exact VV.lts_mono (D.le_add n) cs h3
           · rw [List.append_nil, toVs_ext (ρ.add_ext hD b len) cs h3]
           · simp only [List.length_nil, Nat.add_zero, h4, hlen]; simp [Loc.add]
           · simp [toV, Loc.add, Loc.capOf]
         · cases he
     · cases he
   · cases he
 · cases he
theorem putN_at {l vs r : List VV} {o : Nat} (h : putN l o vs = some r) : putAt (toVs ρ l) o (toVs ρ vs) = some (toVs ρ r) := by
 obtain ⟨h1, h2⟩ := putN_ok h
 rw [putAt_some _ _ _ (by rw [toVs_len, toVs_len]; exact h1), h2]
 simp only [toVs_map, List.map_append, List.map_take, List.map_drop, List.length_map]
def buildFV (fs : Array Field) (T : Tab) : List VV → List (Nat × List VV) → Option (List VV)
 | cs, [] => some cs
 | cs, (k, vs) :: rest => (match fs[k]? with
   | some fd => (match tget T fd.type with
     | some e => bif Nat.beq vs.length e.size && Nat.blt 0 vs.length then (match putN cs fd.offset vs with
       | some cs' => buildFV fs T cs' rest
       | none => none) else none
     | none => none)
   | none => none)
theorem buildFV_ok {fs : Array Field} : ∀ {ps : List (Nat × List VV)} {cs r : List VV}, buildFV fs T cs ps = some r → (∀ p ∈ ps, VV.lts D p.2) → VV.lts D cs → VV.lts D r ∧ buildF fs T (toVs ρ cs) (ps.map fun p => (p.1, toVs ρ p.2)) = some (toVs ρ r)
 | [], cs, r, h, _, hc => by cases h; exact ⟨hc, rfl⟩
 | (k, vs) :: ps, cs, r, h, hl, hc => by
   simp only [buildFV] at h
   split at h
   · rename_i fd hfd
     split at h
     · rename_i e he
       cases hb : (Nat.beq vs.length e.size && Nat.blt 0 vs.length) with
       | false => rw [hb] at h; cases h
       | true =>
         rw [hb] at h
         simp only [cond_true] at h
         split at h
         · rename_i cs' hp
           have h0 := hl (k, vs) (List.mem_cons_self ..)
           have hc' : VV.lts D cs' := by
            rw [(putN_ok hp).2]
            refine VV.lts_iff.2 fun v hv => ?_
            rcases List.mem_append.1 hv with hv | hv
            · rcases List.mem_append.1 hv with hv | hv
              · exact VV.lts_iff.1 hc v (List.mem_of_mem_take hv)
              · exact VV.lts_iff.1 h0 v hv
            · exact VV.lts_iff.1 hc v (List.mem_of_mem_drop hv)
           obtain ⟨h1, h2⟩ := buildFV_ok h (fun p hp => hl p (List.mem_cons_of_mem _ hp)) hc'
           refine ⟨h1, ?_⟩
           simp only [List.map_cons, buildF, hfd, he, toVs_len, hb, cond_true, putN_at hp, h2]
         · cases h
     · cases h
   · cases h
def buildAV (sz : Nat) : List VV → List (Nat × List VV) → Option (List VV)
 | cs, [] => some cs
 | cs, (k, vs) :: rest => bif Nat.beq vs.length sz && Nat.blt 0 vs.length then (match putN cs (k * sz) vs with
   | some cs' => buildAV sz cs' rest
   | none => none) else none
theorem buildAV_ok {sz : Nat} : ∀ {ps : List (Nat × List VV)} {cs r : List VV}, buildAV sz cs ps = some r → (∀ p ∈ ps, VV.lts D p.2) → VV.lts D cs → VV.lts D r ∧ buildA sz (toVs ρ cs) (ps.map fun p => (p.1, toVs ρ p.2)) = some (toVs ρ r)
 | [], cs, r, h, _, hc => by cases h; exact ⟨hc, rfl⟩
 | (k, vs) :: ps, cs, r, h, hl, hc => by
   simp only [buildAV] at h
   cases hb : (Nat.beq vs.length sz && Nat.blt 0 vs.length) with
   | false => rw [hb] at h; cases h
   | true =>
     rw [hb] at h
     simp only [cond_true] at h
     split at h
     · rename_i cs' hp
       have h0 := hl (k, vs) (List.mem_cons_self ..)
       have hc' : VV.lts D cs' := by
        rw [(putN_ok hp).2]
        refine VV.lts_iff.2 fun v hv => ?_
        rcases List.mem_append.1 hv with hv | hv
        · rcases List.mem_append.1 hv with hv | hv
          · exact VV.lts_iff.1 hc v (List.mem_of_mem_take hv)
          · exact VV.lts_iff.1 h0 v hv
        · exact VV.lts_iff.1 hc v (List.mem_of_mem_drop hv)
       obtain ⟨h1, h2⟩ := buildAV_ok h (fun p hp => hl p (List.mem_cons_of_mem _ hp)) hc'
       refine ⟨h1, ?_⟩
       simp only [List.map_cons, buildA, toVs_len, hb, cond_true, putN_at hp, h2]
     · cases h
def evBuild (T : Tab) (N G : Nat) (f : Tr VV) (t : Nat) (parts : List (Nat × Operand)) : Option VV :=
 match tget T t with
 | some ⟨.struct fs, _, _, zero⟩ => bif fs.toList.all (fun fd => (tget T fd.type).isSome) then (match partsV N G f parts with
   | some ps => (match ofCs zero with
     | some z => (match buildFV fs T z ps with
       | some cs => some (.agg cs)
       | none => none)
     | none => none)
   | none => none) else none
 | some ⟨.array _ e, _, _, zero⟩ => (match tget T e with
   | some d => (match partsV N G f parts with
     | some ps => (match ofCs zero with
       | some z => (match buildAV d.size z ps with
         | some cs => some (.agg cs)
         | none => none)
       | none => none)
     | none => none)
   | none => none)
 | _ => none
theorem evBuild_ok (hT : T.ok P) (hS : Slots ρ D f fr) (hG : Glob Γ ρ D G) {t : Nat} {parts : Array (Nat × Operand)} {v : VV} (he : evBuild T N G f t parts.toList = some v) :
 v.lt D ∧ PV P N fr ⟨dst, .build t parts, ty, pos, aft, gd⟩ (toV ρ v) := by
 unfold evBuild at he
 split at he
 · rename_i fs _ _ zero ht
   cases ha : fs.toList.all (fun fd => (tget T fd.type).isSome) with
   | false => rw [ha] at he; cases he
   | true =>
     rw [ha] at he
     simp only [cond_true] at he
     split at he
     · rename_i ps hps
       split at he
       · rename_i z hz
         split at he
         · rename_i cs hcs
           cases he
           obtain ⟨h1, h2⟩ := partsV_ok hS hG hps
           obtain ⟨h3, h4⟩ := ofCs_ok ρ D hz
           obtain ⟨h5, h6⟩ := buildFV_ok (ρ := ρ) hcs h1 h3
           refine ⟨by simpa only [VV.lt] using h5, ?_⟩
           simp only [toV]
           refine PV.build hT ?_
           unfold bld
           simp only [ht, ha, cond_true, h2]
           rw [← h4]; exact h6
         · cases he
       · cases he
     · cases he
 · rename_i m e _ _ zero ht
   split at he
   · rename_i d hd
     split at he
     · rename_i ps hps
       split at he
       · rename_i z hz
         split at he
         · rename_i cs hcs
           cases he
           obtain ⟨h1, h2⟩ := partsV_ok hS hG hps
           obtain ⟨h3, h4⟩ := ofCs_ok ρ D hz
           obtain ⟨h5, h6⟩ := buildAV_ok (ρ := ρ) hcs h1 h3
           refine ⟨by simpa only [VV.lt] using h5, ?_⟩
           simp only [toV]
           obtain ⟨d1, d2, d3, d4⟩ := d
           refine PV.buildArr hT ht hd h2 ?_
           rw [← h4]; exact h6
         · cases he
       · cases he
     · cases he
   · cases he
 · cases he
end
end
end Go.Eng.Ev
namespace Go.Eng.Ev
noncomputable section
open Go Go.Eng
section
variable {Γ : Tab → Plans → Code → Prop} {ρ : Loc} {D : Dom} {n N G : Nat} {f : Tr VV} {fr : Fr} {P : Program} {T : Tab} {dst : Option Nat} {ty : TypeId} {pos : String} {aft : Array Edge} {gd : Option (Nat × Bool)}
def conv (T : Tab) (s d : Nat) (a : VV) : Option VV :=
 match tget T s, tget T d with
 | some _, some e => (match e.desc, a with
   | .int k, .int _ m => some (.int k (k.wrap m))
   | _, _ => none)
 | _, _ => none
theorem conv_ok (hT : T.ok P) {s d : Nat} {x : Operand} {a v : VV} (hx : ev N fr x = toV ρ a) (h : conv T s d a = some v) : v.lt D ∧ PV P N fr ⟨dst, .convert s d x, ty, pos, aft, gd⟩ (toV ρ v) := by
 unfold conv at h
 split at h
 · rename_i es e hs hd
   split at h
   · rename_i k kk m hk
     cases h
     have u1 := (tget_ok hT hs).und
     have u2 := (tget_ok hT hd).und
     rw [hk] at u2
     simp only [toV] at hx ⊢
     refine ⟨by simp only [VV.lt], ?_⟩
     unfold PV; intro w
     simp only [execOp, hx]
     cases hes : es.desc <;> rw [hes] at u1 <;> simp [convert, run_underlying u1, run_underlying u2, Conv.intToInt]
   · cases h
 · cases h
end
end
end Go.Eng.Ev
namespace Go.Eng.Ev
noncomputable section
open Go Go.Eng
section
variable {Γ : Tab → Plans → Code → Prop} {ρ : Loc} {D : Dom} {n N G : Nat} {f : Tr VV} {fr : Fr} {P : Program} {T : Tab} {dst : Option Nat} {ty : TypeId} {pos : String} {aft : Array Edge} {gd : Option (Nat × Bool)}
def bnd : VV → Option Nat
 | .int _ (.ofNat k) => some k
 | _ => none
theorem bytesOf_extract (s : List Nat) (l h : Nat) : (bytesOf s).extract l h = bytesOf ((s.take h).drop l) := by
 apply ByteArray.ext
 apply Array.ext'
 simp [bytesOf, List.drop_take]
def cutA (b o c l sz : Nat) : Addr := ⟨b, if c = l then o else o + l * sz, none⟩
theorem run_sliceS (hT : T.ok P) {t sz b o len c l h : Nat} (hs : elSz T t = some sz) (lo hi : Option Value) (hlo : (lo = none ∧ l = 0) ∨ ∃ k, lo = some (.int k (l : Int))) (hhi : (hi = none ∧ h = len) ∨ ∃ k, hi = some (.int k (h : Int))) (h1 : l ≤ h) (h2 : h ≤ c) (w : World) :
 (Instr.sliceAt t (.slice (some ⟨b, o, none⟩) len c) lo hi none).run P w = .ok (.slice (some (cutA b o c l sz)) (h - l) (c - l)) w := by
 obtain ⟨e, i, z, x', g1, g2, g3, g4, _⟩ := elSz_ok hT hs
 have a1 : (0 : Int) ≤ (l : Int) ∧ (l : Int) ≤ (h : Int) := by omega
 have a2 : (0 : Int) ≤ (h : Int) ∧ (h : Int) ≤ (c : Int) := by omega
 have a3 : (0 : Int) ≤ (h : Int) := by omega
 have a4 : (0 : Int) ≤ (l : Int) := by omega
 unfold cutA
 rcases hlo with ⟨rfl, hl0⟩ | ⟨k1, rfl⟩ <;> rcases hhi with ⟨rfl, hh0⟩ | ⟨k2, rfl⟩
 all_goals
  by_cases hc : c = l
  · simp_all [Instr.sliceAt, Instr.slice, Instr.sliceBounds, Instr.sliceBound, asIntOf, run_underlying g1, sizeOf, run_info g2]
  · simp_all [Instr.sliceAt, Instr.slice, Instr.sliceBounds, Instr.sliceBound, asIntOf, run_underlying g1, sizeOf, run_info g2, Addr.add_none]
theorem PV.sliceG (hT : T.ok P) {t sz b o len c l h : Nat} {x : Operand} {lo hi : Option Operand} (hx : ev N fr x = .slice (some ⟨b, o, none⟩) len c) (hs : elSz T t = some sz) (hlo : (lo = none ∧ l = 0) ∨ ∃ y k, lo = some y ∧ ev N fr y = .int k (l : Int)) (hhi : (hi = none ∧ h = len) ∨ ∃ y k, hi = some y ∧ ev N fr y = .int k (h : Int)) (h1 : l ≤ h) (h2 : h ≤ c) :
 PV P N fr ⟨dst, .slice t x lo hi none, ty, pos, aft, gd⟩ (.slice (some (cutA b o c l sz)) (h - l) (c - l)) := by
 unfold PV; intro w
 have e1 : (lo.map (ev N fr) = none ∧ l = 0) ∨ ∃ k, lo.map (ev N fr) = some (.int k (l : Int)) := by
  rcases hlo with ⟨rfl, h⟩ | ⟨y, k, rfl, h⟩
  · exact .inl ⟨rfl, h⟩
  · exact .inr ⟨k, by simp [h]⟩
 have e2 : (hi.map (ev N fr) = none ∧ h = len) ∨ ∃ k, hi.map (ev N fr) = some (.int k (h : Int)) := by
  rcases hhi with ⟨rfl, h⟩ | ⟨y, k, rfl, h⟩
  · exact .inl ⟨rfl, h⟩
  · exact .inr ⟨k, by simp [h]⟩
 have := run_sliceS hT hs _ _ e1 e2 h1 h2 w (b := b) (o := o)
 simp only [execOp, hx, Option.map_none, Sem.run_bind, this, Result.andThen, Sem.run_pure]
def bdV (N G : Nat) (f : Tr VV) (d : Nat) : Option Operand → Option Nat
 | none => some d
 | some y => (match evO N G f y with
   | some v => bnd v
   | none => none)
theorem bdV_ok (hS : Slots ρ D f fr) (hG : Glob Γ ρ D G) {d l : Nat} {lo : Option Operand} (h : bdV N G f d lo = some l) : (lo = none ∧ l = d) ∨ ∃ y k, lo = some y ∧ ev N fr y = .int k (l : Int) := by
 cases lo with
 | none => cases h; exact .inl ⟨rfl, rfl⟩
 | some y =>
   simp only [bdV] at h
   split at h
   · rename_i v hv
     have h2 := (evO_ok hS hG hv).2
     unfold bnd at h
     split at h
     · rename_i k m
       cases h
       simp only [toV] at h2
       exact .inr ⟨y, k, rfl, h2⟩
     · cases h
   · cases h
def evSliceK (T : Tab) (N G : Nat) (f : Tr VV) (t : Nat) (x : Operand) (lo hi : Option Operand) : Option VV :=
 match evO N G f x with
 | some (.sl k o len (.fix c)) => (match elSz T t with
   | some sz => (match bdV N G f 0 lo with
     | some l => (match bdV N G f len hi with
       | some h => bif Nat.ble l h && Nat.ble h c then some (.sl k (bif Nat.beq c l then o else o + l * sz) (h - l) (.fix (c - l))) else none
       | none => none)
     | none => none)
   | none => none)
 | _ => none
theorem evSliceK_ok (hT : T.ok P) (hS : Slots ρ D f fr) (hG : Glob Γ ρ D G) {t : Nat} {x : Operand} {lo hi : Option Operand} {v : VV} (hv : evSliceK T N G f t x lo hi = some v) : v.lt D ∧ PV P N fr ⟨dst, .slice t x lo hi none, ty, pos, aft, gd⟩ (toV ρ v) := by
 unfold evSliceK at hv
 split at hv
 · rename_i k o len c hx
   split at hv
   · rename_i sz hs
     split at hv
     · rename_i l hl
       split at hv
       · rename_i h hh
         cases hb : (Nat.ble l h && Nat.ble h c) with
         | false => rw [hb] at hv; cases hv
         | true =>
           rw [hb] at hv; cases hv
           simp only [Bool.and_eq_true] at hb
           obtain ⟨h1, h2⟩ := evO_ok hS hG hx
           simp only [toV, Loc.capOf] at h2
           refine ⟨by simpa only [VV.lt] using h1, ?_⟩
           have := PV.sliceG (dst := dst) (ty := ty) (pos := pos) (aft := aft) (gd := gd) hT h2 hs (bdV_ok hS hG hl) (bdV_ok hS hG hh) (Nat.le_of_ble_eq_true hb.1) (Nat.le_of_ble_eq_true hb.2)
           simp only [toV, Loc.capOf]
           have e : (bif Nat.beq c l then o else o + l * sz) = if c = l then o else o + l * sz := by
            by_cases hc : c = l
            · subst hc; simp
            · rw [if_neg hc]
              cases hbb : Nat.beq c l with
              | true => exact absurd (Nat.eq_of_beq_eq_true hbb) hc
              | false => rfl
           rw [e]
           exact this
       · cases hv
     · cases hv
   · cases hv
 · cases hv
end
end
end Go.Eng.Ev
namespace Go.Eng.Ev
noncomputable section
open Go Go.Eng
section
variable {Γ : Tab → Plans → Code → Prop} {ρ : Loc} {D : Dom} {n N G : Nat} {f : Tr VV} {fr : Fr} {P : Program} {T : Tab} {dst : Option Nat} {ty : TypeId} {pos : String} {aft : Array Edge} {gd : Option (Nat × Bool)}
theorem run_sliceT (hT : T.ok P) {t l h : Nat} {s : ByteArray} (hs : tIs T isStrD t = true) (lo hi : Option Value) (hlo : (lo = none ∧ l = 0) ∨ ∃ k, lo = some (.int k (l : Int))) (hhi : (hi = none ∧ h = s.size) ∨ ∃ k, hi = some (.int k (h : Int))) (h1 : l ≤ h) (h2 : h ≤ s.size) (w : World) :
 (Instr.sliceAt t (.string s) lo hi none).run P w = .ok (.string (s.extract l h)) w := by
 have g1 := tIs_str hT hs
 have a1 : (0 : Int) ≤ (l : Int) ∧ (l : Int) ≤ (h : Int) := by omega
 have a2 : (0 : Int) ≤ (h : Int) ∧ (h : Int) ≤ (s.size : Int) := by omega
 have a3 : (0 : Int) ≤ (h : Int) := by omega
 have a4 : (0 : Int) ≤ (l : Int) := by omega
 rcases hlo with ⟨rfl, hl0⟩ | ⟨k1, rfl⟩ <;> rcases hhi with ⟨rfl, hh0⟩ | ⟨k2, rfl⟩
 all_goals simp_all [Instr.sliceAt, Instr.slice, Instr.sliceBounds, Instr.sliceBound, asIntOf, run_underlying g1]
theorem PV.sliceT (hT : T.ok P) {t l h : Nat} {s : ByteArray} {x : Operand} {lo hi : Option Operand} (hx : ev N fr x = .string s) (hs : tIs T isStrD t = true) (hlo : (lo = none ∧ l = 0) ∨ ∃ y k, lo = some y ∧ ev N fr y = .int k (l : Int)) (hhi : (hi = none ∧ h = s.size) ∨ ∃ y k, hi = some y ∧ ev N fr y = .int k (h : Int)) (h1 : l ≤ h) (h2 : h ≤ s.size) :
 PV P N fr ⟨dst, .slice t x lo hi none, ty, pos, aft, gd⟩ (.string (s.extract l h)) := by
 unfold PV; intro w
 have e1 : (lo.map (ev N fr) = none ∧ l = 0) ∨ ∃ k, lo.map (ev N fr) = some (.int k (l : Int)) := by
  rcases hlo with ⟨rfl, h⟩ | ⟨y, k, rfl, h⟩
  · exact .inl ⟨rfl, h⟩
  · exact .inr ⟨k, by simp [h]⟩
 have e2 : (hi.map (ev N fr) = none ∧ h = s.size) ∨ ∃ k, hi.map (ev N fr) = some (.int k (h : Int)) := by
  rcases hhi with ⟨rfl, h⟩ | ⟨y, k, rfl, h⟩
  · exact .inl ⟨rfl, h⟩
  · exact .inr ⟨k, by simp [h]⟩
 have := run_sliceT hT hs _ _ e1 e2 h1 h2 w
 simp only [execOp, hx, Option.map_none, Sem.run_bind, this, Result.andThen, Sem.run_pure]
def evSliceT (T : Tab) (N G : Nat) (f : Tr VV) (t : Nat) (x : Operand) (lo hi : Option Operand) : Option VV :=
 match evO N G f x with
 | some (.str s) => bif tIs T isStrD t then (match bdV N G f 0 lo with
  | some l => (match bdV N G f s.length hi with
    | some h => bif Nat.ble l h && Nat.ble h s.length then some (.str ((s.take h).drop l)) else none
    | none => none)
  | none => none) else none
 | _ => none
theorem evSliceT_ok (hT : T.ok P) (hS : Slots ρ D f fr) (hG : Glob Γ ρ D G) {t : Nat} {x : Operand} {lo hi : Option Operand} {v : VV} (hv : evSliceT T N G f t x lo hi = some v) : v.lt D ∧ PV P N fr ⟨dst, .slice t x lo hi none, ty, pos, aft, gd⟩ (toV ρ v) := by
 unfold evSliceT at hv
 split at hv
 · rename_i s hx
   cases ht : tIs T isStrD t with
   | false => rw [ht] at hv; cases hv
   | true =>
     rw [ht] at hv
     simp only [cond_true] at hv
     split at hv
     · rename_i l hl
       split at hv
       · rename_i h hh
         cases hb : (Nat.ble l h && Nat.ble h s.length) with
         | false => rw [hb] at hv; cases hv
         | true =>
           rw [hb] at hv; cases hv
           simp only [Bool.and_eq_true] at hb
           have h2 := (evO_ok hS hG hx).2
           simp only [toV] at h2
           refine ⟨by simp only [VV.lt], ?_⟩
           have hsz := bytesOf_size s
           have := PV.sliceT (dst := dst) (ty := ty) (pos := pos) (aft := aft) (gd := gd) hT h2 ht (bdV_ok hS hG hl) (by rw [hsz]; exact bdV_ok hS hG hh) (Nat.le_of_ble_eq_true hb.1) (by rw [hsz]; exact Nat.le_of_ble_eq_true hb.2)
           simp only [toV, ← bytesOf_extract]
           exact this
       · cases hv
     · cases hv
 · cases hv
end
end
end Go.Eng.Ev
namespace Go.Eng.Ev
noncomputable section
open Go Go.Eng
section
variable {Γ : Tab → Plans → Code → Prop} {ρ : Loc} {D : Dom} {n N G : Nat} {f : Tr VV} {fr : Fr} {P : Program} {T : Tab} {dst : Option Nat} {ty : TypeId} {pos : String} {aft : Array Edge} {gd : Option (Nat × Bool)}
def fldV (T : Tab) (s fi : Nat) (a : VV) : Option VV :=
 match a with
 | .agg l => (match tget T s with
   | some ⟨.struct fs, _, _, _⟩ => (match fs[fi]? with
     | some fd => rdAt T fd.type l fd.offset
     | none => none)
   | _ => none)
 | _ => none
theorem takeX_some {α : Type} : ∀ {k : Nat} {l : List α}, k ≤ l.length → takeX k l = some (l.take k)
 | 0, _, _ => rfl
 | k + 1, [], h => by simp at h
 | k + 1, a :: l, h => by
   simp only [takeX, takeX_some (k := k) (l := l) (by simpa using h), List.take_succ_cons]
theorem fldV_ok (hT : T.ok P) {s fi : Nat} {x : Operand} {a v : VV} (hx : ev N fr x = toV ρ a) (ha : a.lt D) (h : fldV T s fi a = some v) : v.lt D ∧ PV P N fr ⟨dst, .field s x fi, ty, pos, aft, gd⟩ (toV ρ v) := by
 unfold fldV at h
 split at h
 · rename_i l
   simp only [VV.lt] at ha
   simp only [toV] at hx
   split at h
   · rename_i fs _ _ _ hs
     split at h
     · rename_i fd hfd
       unfold rdAt at h
       split at h
       · rename_i e he
         cases hg : isAggD e.desc with
         | true =>
           rw [hg] at h
           simp only [cond_true] at h
           split at h
           · rename_i r hr
             cases h
             obtain ⟨h1, h2⟩ := takeN_ok hr
             rw [dropN_eq] at h1
             have hle : e.size ≤ (l.drop fd.offset).length := by
              have hq := congrArg List.length h1
              rw [List.length_take, h2] at hq
              omega
             refine ⟨?_, PV.field hT hx ?_⟩
             · simp only [VV.lt]
               exact VV.lts_iff.2 fun v hv => VV.lts_iff.1 ha v (List.mem_of_mem_drop (List.mem_of_mem_take (by rw [← h1]; exact hv)))
             · unfold fVal
               simp only [hs, hfd, he, hg, cond_true]
               rw [takeX_some (by rw [toVs_map, ← List.map_drop, List.length_map]; exact hle)]
               simp only [toV, h1, toVs_map, List.map_take, List.map_drop]
           · cases h
         | false =>
           rw [hg] at h
           simp only [cond_false] at h
           refine ⟨lts_nth ha h, PV.field hT hx ?_⟩
           unfold fVal
           simp only [hs, hfd, he, hg, cond_false, toVs_get, h, Option.map_some, sv_eq]
       · cases h
     · cases h
   · cases h
 · cases h
end
end
end Go.Eng.Ev
namespace Go.Eng.Ev
noncomputable section
open Go Go.Eng
def eqK : VV → VV → Option Bool
 | .int k a, .int k' b => bif decide (k = k') then some (decide (a = b)) else none
 | .str s, .str t => some (eqS s t)
 | .bool a, .bool b => some (a == b)
 | _, _ => none
abbrev VEs := List (VV × VV × Nat)
def findK (k : VV) : VEs → Nat → Option (Option (Nat × VV))
 | [], _ => some none
 | e :: es, i => (match eqK k e.1 with
   | some true => some (some (i, e.2.1))
   | some false => findK k es (i + 1)
   | none => none)
def kindOk : TypeDesc → VV → Bool
 | .int _, .int _ _ => true
 | .string, .str _ => true
 | .bool, .bool _ => true
 | _, _ => false
def entR (ρ : Loc) (es : VEs) : List MapEntry := es.map fun e => ⟨toV ρ e.1, toV ρ e.2.1, e.2.2⟩
theorem sameNow_ok {ρ : Loc} {d : TypeDesc} {k e : VV} {b : Bool} (hk : kindOk d k = true) (h : eqK k e = some b) : Instr.sameNow d (toV ρ k) (toV ρ e) = some b := by
 unfold eqK at h
 split at h
 · rename_i kk a kk' c
   cases hd : decide (kk = kk') with
   | false => rw [hd] at h; cases h
   | true =>
     rw [hd] at h
     cases h
     have : kk = kk' := by simpa using hd
     subst this
     cases d <;> cases hk
     simp only [toV, Instr.sameNow, if_true, Option.some.injEq]
     rfl
 · cases h
   cases d <;> cases hk
   simp only [toV, Instr.sameNow, Option.some.injEq, eqS_ok, beq_str]
 · cases h
   cases d <;> cases hk
   simp only [toV, Instr.sameNow]
 · cases h
theorem findK_ok {ρ : Loc} {d : TypeDesc} {k : VV} (hk : kindOk d k = true) : ∀ {es : VEs} {i : Nat} {r : Option (Nat × VV)}, findK k es i = some r → Instr.findNow d (toV ρ k) (entR ρ es) i = some (r.map fun x => (x.1, toV ρ x.2))
 | [], i, r, h => by cases h; rfl
 | e :: es, i, r, h => by
   simp only [findK] at h
   split at h
   · rename_i he
     cases h
     simp only [entR, List.map_cons, Instr.findNow, sameNow_ok hk he, Option.map_some]
   · rename_i he
     have := findK_ok (ρ := ρ) hk h
     simp only [entR, List.map_cons, Instr.findNow, sameNow_ok hk he] at this ⊢
     exact this
   · cases h
section
variable {Γ : Tab → Plans → Code → Prop} {ρ : Loc} {D : Dom} {n N G : Nat} {f : Tr VV} {h : VH} {fr : Fr} {P : Program} {T : Tab} {i : Imm} {L : SH} {dst : Option Nat} {ty : TypeId} {pos : String} {aft : Array Edge} {gd : Option (Nat × Bool)}
theorem run_zeroV (hT : T.ok P) {t : Nat} {e : TyE} {y : Value} (ht : tget T t = some e) (hy : zOf e = some y) (w : World) : (zeroValue t).run P w = .ok y w := by
 obtain ⟨i, z, hi, _⟩ := (tget_ok hT ht).info
 have := (tget_ok2 hT ht).2.1 i y hi hy
 simp [zeroValue, run_info hi, this]
theorem run_checkKeyV {w : World} {kt : TypeId} {d : TypeDesc} {k : VV} (hd : P.underlying kt = some d) (hk : kindOk d k = true) (e : Bool) (m : Nat) : (Instr.checkKey e (m + 1) kt (toV ρ k)).run P w = .ok () w := by
 cases d <;> cases k <;> cases hk <;> simp [Instr.checkKey, run_underlying hd, toV]
theorem run_findKeyV {w : World} {kt : TypeId} {d : TypeDesc} {k : VV} (hd : P.underlying kt = some d) (hk : kindOk d k = true) {es : VEs} {r : Option (Nat × VV)} (h : findK k es 0 = some r) : (Instr.findKey kt (toV ρ k) (entR ρ es)).run P w = .ok (r.map fun x => (x.1, toV ρ x.2)) w := by
 simp [Instr.findKey, run_underlying hd, findK_ok (ρ := ρ) hk h]
def esOf (h : VH) : VV → Option VEs
 | .nilm => some []
 | .map b => (match get b h with
   | some (_, .map es _) => some es
   | _ => none)
 | _ => none
def zeroV (e : TyE) : Option VV := bif isAggD e.desc then (match ofCs e.zero with | some l => some (.agg l) | none => none) else match e.zero with
 | [v] => ofC v
 | _ => none
theorem zeroV_ok {e : TyE} {v : VV} (h : zeroV e = some v) (ρ : Loc) (D : Dom) : v.lt D ∧ zOf e = some (toV ρ v) := by
 unfold zeroV at h
 unfold zOf
 cases ha : isAggD e.desc with
 | true =>
   rw [ha] at h
   simp only [cond_true] at h ⊢
   split at h
   · rename_i l hl
     cases h
     obtain ⟨h1, h2⟩ := ofCs_ok ρ D hl
     exact ⟨by simp only [VV.lt]; exact h1, by simp only [toV, h2]⟩
   · cases h
 | false =>
   rw [ha] at h
   simp only [cond_false] at h ⊢
   split at h
   · rename_i v' hv
     obtain ⟨h1, h2⟩ := ofC_ok h ρ D
     exact ⟨h1, by simp only [hv, h2]⟩
   · cases h
def evLookup (T : Tab) (N G : Nat) (f : Tr VV) (h : VH) (t : Nat) (x y : Operand) (ok : Bool) : Option VV :=
 match tget T t with
 | some ⟨.map kt et, _, _, _⟩ => (match tget T kt with
   | some dk => (match tget T et with
     | some de => (match evO N G f x with
       | some m => (match evO N G f y with
         | some k => bif kindOk dk.desc k then (match esOf h m with
           | some es => (match findK k es 0 with
             | some (some (_, v)) => some (bif ok then .tup [v, .bool true] else v)
             | some none => (match zeroV de with
               | some v => some (bif ok then .tup [v, .bool false] else v)
               | none => none)
             | none => none)
           | none => none) else none
         | none => none)
       | none => none)
     | none => none)
   | none => none)
 | _ => none
theorem findK_mem {k : VV} : ∀ {es : VEs} {i j : Nat} {v : VV}, findK k es i = some (some (j, v)) → ∃ e ∈ es, e.2.1 = v
 | [], i, j, v, h => by cases h
 | e :: es, i, j, v, h => by
   simp only [findK] at h
   split at h
   · cases h; exact ⟨e, by simp, rfl⟩
   · obtain ⟨e', h1, h2⟩ := findK_mem h
     exact ⟨e', List.mem_cons_of_mem _ h1, h2⟩
   · cases h
theorem esOf_ok (hL : Lay ρ D h i L) {m : VV} {es : VEs} (he : esOf h m = some es) (_ : m.lt D) : (∀ e ∈ es, e.1.lt D ∧ e.2.1.lt D) ∧ ((toV ρ m = .map none ∧ es = []) ∨ ∃ b c, toV ρ m = .map (some b) ∧ Has i L b (.map (entR ρ es).toArray c)) := by
 unfold esOf at he
 split at he
 · cases he
   exact ⟨fun e he => (by cases he), .inl ⟨by simp only [toV], rfl⟩⟩
 · rename_i b _
   split at he
   · rename_i fz es' c hb
     cases he
     obtain ⟨_, h2, o, h3, h4⟩ := hL.has hb
     refine ⟨h2, .inr ⟨ρ.at_ b, c, by simp only [toV], ?_⟩⟩
     have : o = .map (entR ρ es).toArray c := h3
     rw [← this]; exact h4
   · cases he
 · cases he
theorem evLookup_ok (hT : T.ok P) (hS : Slots ρ D f fr) (hG : Glob Γ ρ D G) (hL : Lay ρ D h i L) {t : Nat} {x y : Operand} {ok : Bool} {v : VV} (hv : evLookup T N G f h t x y ok = some v) : v.lt D ∧ LV P N fr i L ⟨dst, .lookup t x y ok, ty, pos, aft, gd⟩ (toV ρ v) := by
 unfold evLookup at hv
 split at hv
 · rename_i kt et _ _ _ ht
   split at hv
   · rename_i dk hdk
     split at hv
     · rename_i de hde
       split at hv
       · rename_i m hm
         split at hv
         · rename_i k hk
           cases hkd : kindOk dk.desc k with
           | false => rw [hkd] at hv; cases hv
           | true =>
             rw [hkd] at hv
             simp only [cond_true] at hv
             split at hv
             · rename_i es hes
               obtain ⟨m1, m2⟩ := evO_ok hS hG hm
               obtain ⟨k1, k2⟩ := evO_ok hS hG hk
               have u1 := (tget_ok hT ht).und
               have u2 := (tget_ok hT hdk).und
               simp only at u1
               obtain ⟨e1, e2⟩ := esOf_ok hL hes m1
               have main : ∀ (r : Option (Nat × VV)) (v0 : VV) (b : Bool), findK k es 0 = some r → (∀ q, r = some q → v0 = q.2 ∧ b = true) → (r = none → b = false ∧ ∀ w, (zeroValue et).run P w = .ok (toV ρ v0) w) → v0.lt D →
                v = (bif ok then .tup [v0, .bool b] else v0) → v.lt D ∧ LV P N fr i L ⟨dst, .lookup t x y ok, ty, pos, aft, gd⟩ (toV ρ v) := by
                intro r v0 b hr hr1 hr2 hlt hve
                refine ⟨?_, ?_⟩
                · rw [hve]
                  cases ok
                  · exact hlt
                  · simp only [cond_true, VV.lt, VV.lts]; exact ⟨hlt, trivial, trivial⟩
                · have hfin : toV ρ v = if ok = true then .tuple #[toV ρ v0, .bool b] else toV ρ v0 := by
                   rw [hve]
                   cases ok
                   · rfl
                   · simp only [cond_true, toV, toVs, if_true]
                  rw [hfin]
                  unfold LV; intro w hw
                  have g3 := run_findKeyV (ρ := ρ) (w := w) u2 hkd hr
                  have g4 : ∀ e, (Instr.checkKey e 10000 kt (toV ρ k)).run P w = .ok () w := fun e => run_checkKeyV u2 hkd e 9999
                  rcases e2 with ⟨e2, e3⟩ | ⟨bb, c, e2, e3⟩
                  · subst e3
                    rw [e2] at m2
                    simp only [execOp, m2, k2, Instr.lookup]
                    have g3' : (Instr.findKey kt (toV ρ k) []).run P w = .ok (r.map fun x => (x.1, toV ρ x.2)) w := g3
                    cases r with
                    | none =>
                      obtain ⟨rfl, hz⟩ := hr2 rfl
                      simp [run_underlying u1, g4, g3', hz w]
                    | some q =>
                      obtain ⟨rfl, rfl⟩ := hr1 q rfl
                      simp [run_underlying u1, g4, g3']
                  · rw [e2] at m2
                    have g1 : (getObj bb).run P w = .ok (.map (entR ρ es).toArray c) w := run_getObj_m (e3.block hw)
                    simp only [execOp, m2, k2, Instr.lookup]
                    cases r with
                    | none =>
                      obtain ⟨rfl, hz⟩ := hr2 rfl
                      simp [run_underlying u1, g1, g4, g3, hz w]
                    | some q =>
                      obtain ⟨rfl, rfl⟩ := hr1 q rfl
                      simp [run_underlying u1, g1, g4, g3]
               split at hv
               · rename_i j v0 hf
                 cases hv
                 obtain ⟨e, he, hev⟩ := findK_mem hf
                 exact main _ v0 true hf (fun q hq => by cases hq; exact ⟨rfl, rfl⟩) (fun hq => by cases hq) (by rw [← hev]; exact (e1 e he).2) rfl
               · rename_i hf
                 split at hv
                 · rename_i v0 hz
                   cases hv
                   obtain ⟨z1, z2⟩ := zeroV_ok hz ρ D
                   exact main _ v0 false hf (fun q hq => by cases hq) (fun _ => ⟨rfl, run_zeroV hT hde z2⟩) z1 rfl
                 · cases hv
               · cases hv
             · cases hv
         · cases hv
       · cases hv
     · cases hv
   · cases hv
 · cases hv
def putK (k v : VV) : VEs → Nat → VEs
 | e :: es, 0 => (k, v, e.2.2) :: es
 | e :: es, j + 1 => e :: putK k v es j
 | [], _ => []
def sameK : VV → VV → Bool
 | .int k a, .int k' b => decide (k = k') && decide (a = b)
 | .str s, .str t => eqS s t
 | .bool a, .bool b => a == b
 | _, _ => false
def evPut (T : Tab) (N G : Nat) (f : Tr VV) (t : Nat) (x y z : Operand) (h : VH) (n : Nat) : Option Eff :=
 match tget T t with
 | some ⟨.map kt _, _, _, _⟩ => (match tget T kt with
   | some dk => (match evO N G f x with
     | some (.map b) => (match evO N G f y with
       | some k => (match evO N G f z with
         | some v => bif kindOk dk.desc k then (match get b h with
           | some (false, .map es c) => (match findK k es 0 with
             | some (some (j, _)) => (match nth es j with
               | some e => bif sameK e.1 k then some ⟨none, set b (false, .map (putK k v es j) c) h, n⟩ else none
               | none => none)
             | some none => some ⟨none, set b (false, .map (es ++ [(k, v, c)]) (c + 1)) h, n⟩
             | none => none)
           | _ => none) else none
         | none => none)
       | none => none)
     | _ => none)
   | none => none)
 | _ => none
theorem sameK_ok {ρ : Loc} {a b : VV} (h : sameK a b = true) (m : Nat) : Instr.sameBits (m + 1) (toV ρ a) (toV ρ b) = true := by
 unfold sameK at h
 split at h
 · simp only [Bool.and_eq_true, decide_eq_true_eq] at h
   obtain ⟨rfl, rfl⟩ := h
   simp [toV, Instr.sameBits]
 · rw [eqS_ok] at h
   simp only [decide_eq_true_eq] at h
   simp only [toV, Instr.sameBits, beq_str, h, decide_true]
 · simp only [toV, Instr.sameBits]; exact h
 · cases h
theorem putK_ok {ρ : Loc} {k v : VV} : ∀ {es : VEs} {j : Nat}, (entR ρ es).toArray.modify j (fun e => { e with key := toV ρ k, val := toV ρ v }) = (entR ρ (putK k v es j)).toArray := by
 intro es j
 apply Array.ext_getElem?
 intro m
 rw [Array.getElem?_modify]
 have : ∀ (es : VEs) (j m : Nat), (entR ρ (putK k v es j))[m]? = if j = m then ((entR ρ es)[m]?).map (fun e => ({ e with key := toV ρ k, val := toV ρ v } : MapEntry)) else (entR ρ es)[m]? := by
  intro es
  induction es with
  | nil => intro j m; simp [putK, entR]
  | cons e es ih =>
    intro j m
    cases j with
    | zero => cases m <;> simp [putK, entR]
    | succ j =>
      cases m with
      | zero => simp [putK, entR]
      | succ m =>
        have := ih j m
        simp only [entR, putK, List.map_cons, List.getElem?_cons_succ, Nat.succ.injEq] at this ⊢
        simpa using this
 simp only [List.getElem?_toArray]
 rw [this es j m]
theorem putK_lt {D : Dom} {k v : VV} (hk : k.lt D) (hv : v.lt D) : ∀ {es : VEs} {j : Nat}, (∀ e ∈ es, e.1.lt D ∧ e.2.1.lt D) → ∀ e ∈ putK k v es j, e.1.lt D ∧ e.2.1.lt D
 | [], _, _, e, he => by cases he
 | a :: es, 0, h, e, he => by
   simp only [putK, List.mem_cons] at he
   rcases he with rfl | he
   · exact ⟨hk, hv⟩
   · exact h e (List.mem_cons_of_mem _ he)
 | a :: es, j + 1, h, e, he => by
   simp only [putK, List.mem_cons] at he
   rcases he with rfl | he
   · exact h e (by simp)
   · exact putK_lt hk hv (fun e he => h e (List.mem_cons_of_mem _ he)) e he
theorem evPut_ok (hT : T.ok P) (hS : Slots ρ D f fr) (hG : Glob Γ ρ D G) (hL : Lay ρ D h i L) {t : Nat} {x y z : Operand} {e : Eff} (he : evPut T N G f t x y z h n = some e) :
 OpS P N ⟨dst, .mapUpdate t x y z, ty, pos, aft, gd⟩ fr i L (Post ρ D n e) ∧ OpS P N ⟨dst, .insert t x y z, ty, pos, aft, gd⟩ fr i L (Post ρ D n e) := by
 unfold evPut at he
 split at he
 · rename_i kt et _ _ _ ht
   split at he
   · rename_i dk hdk
     split at he
     · rename_i b hm
       split at he
       · rename_i k hk
         split at he
         · rename_i v hv
           cases hkd : kindOk dk.desc k with
           | false => rw [hkd] at he; cases he
           | true =>
             rw [hkd] at he
             simp only [cond_true] at he
             split at he
             · rename_i es c hb
               obtain ⟨_, m2⟩ := evO_ok hS hG hm
               obtain ⟨k1, k2⟩ := evO_ok hS hG hk
               obtain ⟨v1, v2⟩ := evO_ok hS hG hv
               simp only [toV] at m2
               have u1 := (tget_ok hT ht).und
               have u2 := (tget_ok hT hdk).und
               simp only at u1
               obtain ⟨ob, j, ho, hj⟩ := Lay.own hL hb
               have ho' : ob = .map (entR ρ es).toArray c := ho
               subst ho'
               have hlt := (hL.ok _ _ _ hb).2.1
               have main : ∀ (es' : VEs) (c' : Nat), (∀ e ∈ es', e.1.lt D ∧ e.2.1.lt D) → (∀ w, St i L w → (Instr.mapUpdate t (.map (some (ρ.at_ b))) (toV ρ k) (toV ρ v)).run P w = .ok () (ChangeMaps.setBlock w (ρ.at_ b) (.map (entR ρ es').toArray c'))) →
                OpS P N ⟨dst, .mapUpdate t x y z, ty, pos, aft, gd⟩ fr i L (Post ρ D n ⟨none, set b (false, .map es' c') h, n⟩) ∧ OpS P N ⟨dst, .insert t x y z, ty, pos, aft, gd⟩ fr i L (Post ρ D n ⟨none, set b (false, .map es' c') h, n⟩) := by
                intro es' c' hes hrun
                have hpost : Post ρ D n ⟨none, set b (false, .map es' c') h, n⟩ undef i (L.set j (ρ.at_ b, .map (entR ρ es').toArray c')) :=
                 ⟨ρ, Ext.refl D ρ, Nat.le_refl n, (Lay.put hL (vo' := .map es' c') hb hj hes rfl).mono (D.le_upto n n), fun v hv => by cases hv⟩
                refine ⟨OpS.skipW fun w hw => ⟨_, i, _, ?_, Imm.le.refl i, hw.setBlock _ hj, hpost⟩, OpS.skipW fun w hw => ⟨_, i, _, ?_, Imm.le.refl i, hw.setBlock _ hj, hpost⟩⟩
                all_goals
                 simp only [execOp, m2, k2, v2]
                 simp [hrun w hw]
               have g4 : ∀ (w : World) (e : Bool), (Instr.checkKey e 10000 kt (toV ρ k)).run P w = .ok () w := fun w e => run_checkKeyV u2 hkd e 9999
               split at he
               · rename_i jj v0 hf
                 split at he
                 · rename_i e0 he0
                   cases hsk : sameK e0.1 k with
                   | false => rw [hsk] at he; cases he
                   | true =>
                     rw [hsk] at he
                     cases he
                     refine main _ _ (putK_lt k1 v1 hlt) fun w hw => ?_
                     have h7 := hw.own _ (List.mem_of_getElem? hj)
                     have g1 : (getObj (ρ.at_ b)).run P w = .ok (.map (entR ρ es).toArray c) w := run_getObj_m h7
                     have g2 := run_setObj_m (P := P) (.map (entR ρ (putK k v es jj)).toArray c) h7
                     have g3 := run_findKeyV (ρ := ρ) (w := w) u2 hkd hf
                     rw [nth_eq] at he0
                     have g5 : (entR ρ es)[jj]? = some ⟨toV ρ e0.1, toV ρ e0.2.1, e0.2.2⟩ := by simp [entR, he0]
                     have g6 : (Instr.keyThatStays (toV ρ e0.1) (toV ρ k)).run P w = .ok (toV ρ k) w := by
                      simp [Instr.keyThatStays, sameK_ok hsk 9999]
                     simp only [Instr.mapUpdate]
                     have g7 := putK_ok (ρ := ρ) (k := k) (v := v) (es := es) (j := jj)
                     simp only [List.modify_toArray] at g7
                     simp [run_underlying u1, g1, g4, g3, g5, g6, g7, g2]
                     rfl
                 · cases he
               · rename_i hf
                 cases he
                 refine main _ _ (fun e he => ?_) fun w hw => ?_
                 · rcases List.mem_append.1 he with he | he
                   · exact hlt e he
                   · rw [List.mem_singleton] at he
                     subst he; exact ⟨k1, v1⟩
                 · have h7 := hw.own _ (List.mem_of_getElem? hj)
                   have g1 : (getObj (ρ.at_ b)).run P w = .ok (.map (entR ρ es).toArray c) w := run_getObj_m h7
                   have g2 := run_setObj_m (P := P) (.map (entR ρ (es ++ [(k, v, c)])).toArray (c + 1)) h7
                   have g3 := run_findKeyV (ρ := ρ) (w := w) u2 hkd hf
                   have g5 : (entR ρ es).toArray.push ⟨toV ρ k, toV ρ v, c⟩ = (entR ρ (es ++ [(k, v, c)])).toArray := by simp [entR]
                   simp only [Instr.mapUpdate]
                   simp only [List.push_toArray] at g5
                   simp [run_underlying u1, g1, g4, g3, g5, g2]
                   rfl
               · cases he
             · cases he
         · cases he
       · cases he
     · cases he
   · cases he
 · cases he
end
end
end Go.Eng.Ev
namespace Go.Eng.Ev
noncomputable section
open Go Go.Eng
theorem setCells_rest (b : Nat) : ∀ (vs : List Value) (o : Nat) (w : World), (w.setCells b o vs).os = w.os ∧ (w.setCells b o vs).tape = w.tape ∧ (w.setCells b o vs).output = w.output
 | [], _, _ => ⟨rfl, rfl, rfl⟩
 | v :: r, o, w => by
   obtain ⟨h1, h2, h3⟩ := setCells_rest b r (o + 1) (w.setCell ⟨b, o, none⟩ v)
   exact ⟨h1, h2, h3⟩
theorem heap_setCells (b : Nat) (e : TypeId) (fz : Nat × Nat) : ∀ (vs cs : List Value) (o : Nat) (w : World), w.heap[b]? = some (.cells cs.toArray e fz) → o + vs.length ≤ cs.length →
 ∀ c, (w.setCells b o vs).heap[c]? = if c = b then some (.cells (cs.take o ++ vs ++ cs.drop (o + vs.length)).toArray e fz) else w.heap[c]?
 | [], cs, o, w, h, hl, c => by
   simp only [World.setCells, List.length_nil, Nat.add_zero, List.append_nil, List.take_append_drop]
   by_cases hc : c = b
   · subst hc; rw [if_pos rfl, h]
   · rw [if_neg hc]
 | v :: r, cs, o, w, h, hl, c => by
   simp only [List.length_cons] at hl
   have hlt : o < cs.length := by omega
   have h1 : (w.setCell ⟨b, o, none⟩ v).heap[b]? = some (.cells (cs.set o v).toArray e fz) := by
    simp [World.setCell, Array.getElem?_modify, h]
   have h2 := heap_setCells b e fz r (cs.set o v) (o + 1) _ h1 (by simp; omega) c
   rw [World.setCells, h2]
   by_cases hc : c = b
   · subst hc
     rw [if_pos rfl, if_pos rfl]
     congr 3
     apply List.ext_getElem?
     intro m
     simp only [List.getElem?_append, List.length_take, List.length_append, List.length_set, List.length_cons, List.getElem?_take, List.getElem?_set, List.getElem?_drop]
     have m1 : min (o + 1) cs.length = o + 1 := by omega
     have m2 : min o cs.length = o := by omega
     rw [m1, m2]
     rcases Nat.lt_trichotomy m o with h3 | h3 | h3
     · have a1 : m < o + 1 + r.length := by omega
       have a2 : m < o + 1 := by omega
       have a3 : m < o + (r.length + 1) := by omega
       have a4 : ¬ o = m := by omega
       simp only [a1, a2, a3, a4, h3, if_true, if_false]
     · subst h3
       have a1 : m < m + 1 + r.length := by omega
       have a2 : m < m + 1 := by omega
       have a3 : m < m + (r.length + 1) := by omega
       have a4 : ¬ m < m := by omega
       simp only [a1, a2, a3, a4, if_true, if_false, hlt]
       simp
     · have a2 : ¬ m < o + 1 := by omega
       have a4 : ¬ m < o := by omega
       have a5 : (m < o + 1 + r.length) ↔ (m < o + (r.length + 1)) := by omega
       by_cases a6 : m < o + (r.length + 1)
       · have a7 := a5.2 a6
         simp only [a2, a4, a6, a7, if_true, if_false]
         have : m - o = (m - (o + 1)) + 1 := by omega
         rw [this, List.getElem?_cons_succ]
       · have a7 : ¬ m < o + 1 + r.length := fun h => a6 (a5.1 h)
         have a8 : ¬ o = o + 1 + r.length + (m - (o + 1 + r.length)) := by omega
         simp only [a2, a4, a6, a7, if_true, if_false, a8]
         congr 1
         omega
   · rw [if_neg hc, if_neg hc]
     simp only [World.setCell, Array.getElem?_modify]
     rw [if_neg (fun e => hc e.symm)]
theorem St.setCells {i : Imm} {L : SH} {w : World} {k b o : Nat} {cs vs : List Value} {e : TypeId} {fz : Nat × Nat} (h : St i L w) (hk : L[k]? = some (b, .cells cs.toArray e fz)) (hl : o + vs.length ≤ cs.length) :
 St i (L.set k (b, .cells (cs.take o ++ vs ++ cs.drop (o + vs.length)).toArray e fz)) (w.setCells b o vs) := by
 obtain ⟨h1, h2, h3⟩ := setCells_rest b vs o w
 exact h.put hk h1 h2 h3 (heap_setCells b e fz vs cs o w (h.own _ (List.mem_of_getElem? hk)) hl)
section
variable {Γ : Tab → Plans → Code → Prop} {ρ : Loc} {D : Dom} {n N G : Nat} {f : Tr VV} {h : VH} {fr : Fr} {P : Program} {T : Tab} {i : Imm} {L : SH} {dst : Option Nat} {ty : TypeId} {pos : String} {aft : Array Edge} {gd : Option (Nat × Bool)}
theorem Lay.move (hL : Lay ρ D h i L) (hn : ¬ D n) {k j : Nat} {vo vo' : VO} {o o' : Obj} (hk : get k h = some (false, vo)) (hj : L[j]? = some (ρ.at_ k, o)) {c : Nat} (hlt : vo'.lt (D.add n)) (ho : Holds (ρ.add n (ρ.at_ k) c) n vo' o') :
 Lay (ρ.add n (ρ.at_ k) c) (D.add n) (set n (false, vo') (del k h)) i (L.set j (ρ.at_ k, o')) := by
 have hjl : j < L.length := (List.getElem?_eq_some_iff.1 hj).1
 have hat : ∀ x, D x → (ρ.add n (ρ.at_ k) c).at_ x = ρ.at_ x := fun x hx => (ρ.add_ext hn _ c).at_ x hx
 have hn' : (ρ.add n (ρ.at_ k) c).at_ n = ρ.at_ k := by simp [Loc.add]
 have stay : ∀ (p : Nat × Obj), p ∈ L → p.1 ≠ ρ.at_ k → p ∈ L.set j (ρ.at_ k, o') := fun p hp hne => by
  obtain ⟨q, hq⟩ := List.getElem?_of_mem hp
  have hqj : q ≠ j := by
   rintro rfl
   rw [hq] at hj
   exact hne (congrArg Prod.fst (Option.some.inj hj))
  exact List.mem_of_getElem? ((List.getElem?_set_ne (by omega)).trans hq)
 have old : ∀ x fz w, x ≠ n → get x (set n (false, vo') (del k h)) = some (fz, w) → x ≠ k ∧ get x h = some (fz, w) := fun x fz w hx hg => by
  rcases get_set hg with ⟨e, _⟩ | ⟨_, hg⟩
  · exact absurd e hx
  · exact get_del hg
 refine ⟨fun x fz w hx => ?_, fun x y w w' hx hy e => ?_, fun p hp => ?_⟩
 · by_cases hxn : x = n
   · subst hxn
     rw [get_set_same] at hx
     cases hx
     refine ⟨.inr rfl, hlt, o', ho, ?_⟩
     rw [hn']
     simp only [Bool.false_eq_true, if_false]
     exact List.mem_of_getElem? (List.getElem?_set_self hjl)
   · obtain ⟨h1, h2⟩ := old x fz w hxn hx
     obtain ⟨h3, h4, o1, h5, h6⟩ := hL.ok x fz w h2
     refine ⟨.inl h3, VO.lt_mono (D.le_add n) h4, o1, h5.ext (ρ.add_ext hn _ c) h3 h4, ?_⟩
     rw [hat x h3]
     split at h6
     · rename_i hf; rw [if_pos hf]; exact h6
     · rename_i hf
       rw [if_neg hf]
       have hf' : fz = false := by simpa using hf
       subst hf'
       exact stay _ h6 fun e => h1 (hL.inj x k w vo h2 hk e)
 · by_cases hxn : x = n <;> by_cases hyn : y = n
   · rw [hxn, hyn]
   · obtain ⟨h1, h2⟩ := old y _ _ hyn hy
     rw [hxn, hn', hat y (hL.ok _ _ _ h2).1] at e
     exact absurd (hL.inj y k w' vo h2 hk e.symm) h1
   · obtain ⟨h1, h2⟩ := old x _ _ hxn hx
     rw [hyn, hn', hat x (hL.ok _ _ _ h2).1] at e
     exact absurd (hL.inj x k w vo h2 hk e) h1
   · obtain ⟨h1, h2⟩ := old x _ _ hxn hx
     obtain ⟨h3, h4⟩ := old y _ _ hyn hy
     rw [hat x (hL.ok _ _ _ h2).1, hat y (hL.ok _ _ _ h4).1] at e
     exact hL.inj x y w w' h2 h4 e
 · obtain ⟨h1, h2⟩ := hL.frm p hp
   refine ⟨stay p h1 fun e => h2 k vo hk e.symm, fun x w hx => ?_⟩
   by_cases hxn : x = n
   · subst hxn; rw [hn']; exact h2 k vo hk
   · obtain ⟨_, h4⟩ := old x _ _ hxn hx
     rw [hat x (hL.ok _ _ _ h4).1]
     exact h2 x w h4
theorem Lay.del (hL : Lay ρ D h i L) (k : Nat) : Lay ρ D (del k h) i L := hL.sub fun _ _ _ hq => (get_del hq).2
def evSrc (T : Tab) (h : VH) (sz tx : Nat) : VV → Option (Nat × List VV)
 | .nils => (match tget T tx with
   | some ⟨.slice _, _, _, _⟩ => some (0, [])
   | _ => none)
 | .sle _ _ _ _ => (match tget T tx with
   | some ⟨.slice _, _, _, _⟩ => some (0, [])
   | _ => none)
 | .sl k o m _ => (match tget T tx with
   | some ⟨.slice _, _, _, _⟩ => (match rowOf (get k h) with
     | some l => (match takeN (m * sz) (dropN o l) with
       | some r => bif r.all oneV then some (m, r) else none
       | none => none)
     | _ => none)
   | _ => none)
 | .str s => (match tget T tx with
   | some ⟨.string, _, _, _⟩ => bif Nat.beq sz 1 then some (s.length, s.map fun x => .int .u8 (Int.ofNat (Nat.mod x 256))) else none
   | _ => none)
 | _ => none
theorem byteCells_of (s : List Nat) : byteCells (bytesOf s) = s.map fun x => Value.int .u8 (Int.ofNat (Nat.mod x 256)) := by
 unfold byteCells bytesOf
 simp only [List.map_map]
 refine List.map_congr_left fun x _ => ?_
 simp
 rfl
theorem evSrc_ok (hT : T.ok P) (hL : Lay ρ D h i L) {sz tx m : Nat} {v : VV} {news : List VV} (hv : evSrc T h sz tx v = some (m, news)) (hlt : v.lt D) : VV.lts D news ∧ news.length = m * sz ∧ ∀ w, St i L w → Src P sz tx (toV ρ v) m (toVs ρ news) w := by
 have one : ∀ r : List VV, r.all oneV = true → ∀ u ∈ toVs ρ r, u.oneCell' = true := fun r hr u hu => by
  rw [toVs_map] at hu
  obtain ⟨q, hq, rfl⟩ := List.mem_map.1 hu
  exact oneV_ok (List.all_eq_true.1 hr q hq)
 unfold evSrc at hv
 split at hv
 · split at hv
   · rename_i e _ _ _ ht
     cases hv
     have hu := (tget_ok hT ht).und
     simp only at hu
     refine ⟨by simp only [VV.lts], by simp, fun w _ => ?_⟩
     simp only [toV, toVs]
     exact Src.ofNil w hu 0
   · cases hv
 · split at hv
   · rename_i e _ _ _ ht
     cases hv
     have hu := (tget_ok hT ht).und
     simp only at hu
     refine ⟨by simp only [VV.lts], by simp, fun w _ => ?_⟩
     simp only [toV, toVs]
     exact Src.ofSlice w hu _ 0 _ [] (by simp) (fun j u h => by simp at h) (fun u h => by cases h)
   · cases hv
 · rename_i k o m' c
   split at hv
   · rename_i e _ _ _ ht
     split at hv
     · rename_i l hk
       split at hv
       · rename_i r hr
         cases ho : r.all oneV with
         | false => rw [ho] at hv; cases hv
         | true =>
           rw [ho] at hv
           cases hv
           have hu := (tget_ok hT ht).und
           simp only at hu
           obtain ⟨h4, sp, ty', fz, h6⟩ := rowOf_ok (k := k) hL (fun _ _ e => e) hk
           obtain ⟨h1, h2⟩ := takeN_ok hr
           rw [dropN_eq] at h1
           refine ⟨?_, h2, fun w hw => ?_⟩
           · exact VV.lts_iff.2 fun v hv => VV.lts_iff.1 h4 v (List.mem_of_mem_drop (List.mem_of_mem_take (by rw [← h1]; exact hv)))
           · simp only [toV]
             refine Src.ofSlice w hu _ _ _ _ (by rw [toVs_len, h2]) (fun j u hj => ?_) (one _ ho)
             rw [Addr.add_none, cell_at (h6.block hw)]
             rw [toVs_map, List.getElem?_map, h1, List.getElem?_take] at hj
             split at hj
             · rw [List.getElem?_drop] at hj
               cases hg : l[o + j]? with
               | none => rw [hg] at hj; cases hj
               | some c =>
                 rw [hg] at hj
                 cases hj
                 have hlt := (List.getElem?_eq_some_iff.1 hg).1
                 rw [List.getElem?_append_left (by rw [toVs_len]; exact hlt), toVs_map, List.getElem?_map, hg]; rfl
             · cases hj
       · cases hv
     · cases hv
   · cases hv
 · rename_i s
   split at hv
   · rename_i _ _ _ ht
     cases hb : Nat.beq sz 1 with
     | false => rw [hb] at hv; cases hv
     | true =>
       rw [hb] at hv
       cases hv
       have := Nat.eq_of_beq_eq_true hb
       subst this
       have hu := (tget_ok hT ht).und
       simp only at hu
       have hlen : (bytesOf s).size = s.length := by unfold bytesOf; show (s.map UInt8.ofNat).toArray.size = _; simp
       have hcells : toVs ρ (s.map fun x => VV.int .u8 (Int.ofNat (Nat.mod x 256))) = byteCells (bytesOf s) := by
        rw [byteCells_of, toVs_map, List.map_map]
        refine List.map_congr_left fun x _ => ?_
        simp [toV]
       refine ⟨VV.lts_iff.2 fun v hv => ?_, by simp, fun w _ => ?_⟩
       · obtain ⟨x, _, rfl⟩ := List.mem_map.1 hv
         simp only [VV.lt]
       · rw [hcells]
         simp only [toV]
         have := Src.ofString (P := P) w hu (bytesOf s)
         rw [hlen] at this
         exact this
   · cases hv
 · cases hv
end
end
end Go.Eng.Ev
namespace Go.Eng.Ev
noncomputable section
open Go Go.Eng
section
variable {Γ : Tab → Plans → Code → Prop} {ρ : Loc} {D : Dom} {n N G : Nat} {f : Tr VV} {h : VH} {fr : Fr} {P : Program} {T : Tab} {i : Imm} {L : SH} {dst : Option Nat} {ty : TypeId} {pos : String} {aft : Array Edge} {gd : Option (Nat × Bool)}
def capGe (h : VH) (b : Nat) (c : Cap) (k : Nat) : Bool :=
 match c with
 | .fix c => Nat.ble k c
 | .rest i => (match get b h with
   | some (_, .cells l _ sz) => Nat.blt 0 sz && Nat.ble ((i + k) * sz) l.length
   | _ => false)
theorem capGe_ok (hL : Lay ρ D h i L) {b k : Nat} {c : Cap} (hc : capGe h b c k = true) : k ≤ ρ.capOf b c := by
 cases c with
 | fix c => exact Nat.le_of_ble_eq_true hc
 | rest j =>
   unfold capGe at hc
   simp only at hc
   split at hc
   · rename_i fz l ty' sz hb
     simp only [Bool.and_eq_true, Nat.blt_eq] at hc
     obtain ⟨h1, h2⟩ := hc
     have h2 := Nat.le_of_ble_eq_true h2
     obtain ⟨_, _, ob, ⟨sp, rfl, h4⟩, _⟩ := hL.has hb
     have h5 : (j + k) * sz ≤ ρ.cap b * sz := by omega
     have h6 := Nat.le_of_mul_le_mul_right h5 h1
     simp only [Loc.capOf]
     omega
   · cases hc
def evAppend (T : Tab) (t tx : Nat) (a b : VV) (h : VH) (n : Nat) : Option Eff :=
 match tget T t with
 | some ⟨.slice e, _, _, _⟩ => (match tget T e with
   | some te => bif Nat.blt 0 te.size then (match evSrc T h te.size tx b with
     | some (m, news) => (match a with
       | .nils => (match m with
         | 0 => some ⟨some .nils, h, n⟩
         | m + 1 => bif Nat.ble ((m + 1) * te.bytes) 1099511627776 && Nat.ble (m + 1) 1099511627776 then some ⟨some (.sl n 0 (m + 1) (.rest 0)), set n (false, .cells news e te.size) h, n + 1⟩ else none)
       | .sl k o len c => (match m with
         | 0 => bif capGe h k c len then some ⟨some (.sl k o len c), h, n⟩ else none
         | m + 1 => (match get k h with
           | some (fz, .cells l ty' sz') => bif capGe h k c (len + (m + 1)) then
            bif fz then none else (match putN l (o + len * te.size) news with
             | some l' => some ⟨some (.sl k o (len + (m + 1)) c), set k (false, .cells l' ty' sz') h, n⟩
             | none => none)
             else bif Nat.ble ((len + (m + 1)) * te.bytes) 1099511627776 && Nat.ble (len + (m + 1)) 1099511627776 then (match c with
              | .fix c' => bif Nat.blt c' (len + (m + 1)) then (match takeN (len * te.size) (dropN o l) with
               | some olds => some ⟨some (.sl n 0 (len + (m + 1)) (.rest 0)), set n (false, .cells (olds ++ news) e te.size) h, n + 1⟩
               | none => none) else none
              | .rest 0 => bif !fz && Nat.beq o 0 && Nat.beq l.length (len * te.size) && Nat.beq ty' e && Nat.beq sz' te.size then
               some ⟨some (.sl n 0 (len + (m + 1)) (.rest 0)), set n (false, .cells (l ++ news) e te.size) (del k h), n + 1⟩ else none
              | _ => none) else none
           | _ => none))
       | _ => none)
     | none => none) else none
   | none => none)
 | _ => none
theorem run_append_nothing (w : World) (t tx ty e : TypeId) (ti : TypeInfo) (ht : P.underlying t = some (.slice e)) (hi : P.info? e = some ti) (base : Option Addr) (k cap : Nat) (hk : k ≤ cap) (x : Value) (hs : Src P ti.size tx x 0 [] w) :
 (Builtin.append_ #[t, tx] ty #[.slice base k cap, x]).run P w = .ok (.slice base k cap) w := by
 have hc := hs.cells
 rcases hs.kind with ⟨e', hk'⟩ | hk' <;> cases base <;> simp [Builtin.append_, run_underlying ht, run_underlying hk', sizeOf, typeInfo, hi, hs.len, hk, hc, storeCells]
theorem post_row (hL : Lay ρ D h i L) (hD : ¬ D n) {w w' : World} (hw : St i L w) {o : Oper} {e sz need cap : Nat} {cs : List VV} {sp : List Value} (hlt : VV.lts D cs) (hlen : cs.length + sp.length = cap * sz)
 (hr : (execOp (ev N fr) o).run P w = .ok (.value (.slice (some ⟨w.heap.size, 0, none⟩) need cap)) w') (hw' : w' = w.drew.alloc (.cells ((toVs ρ cs).toArray ++ sp.toArray) e)) :
 ∃ v w' i' L', (execOp (ev N fr) o).run P w = .ok (.value v) w' ∧ i.le i' ∧ St i' L' w' ∧ Post ρ D n ⟨some (.sl n 0 need (.rest 0)), set n (false, .cells cs e sz) h, n + 1⟩ v i' L' := by
 have hst : St i ((w.heap.size, .cells ((toVs ρ cs).toArray ++ sp.toArray) e (0, 0)) :: L) w' := by
  subst hw'
  exact St.push (w := w.drew) hw.drew rfl rfl rfl rfl
 refine ⟨_, w', i, _, hr, Imm.le.refl i, hst, ρ.add n w.heap.size cap, ρ.add_ext hD _ _, Nat.le_succ n, (Lay.push (vo := .cells cs e sz) (c := cap) hL hD hst.nodup ?_ ⟨sp, ?_, ?_⟩).mono (add_upto D n), fun v' hv' => ?_⟩
 · exact VV.lts_mono (D.le_add n) cs hlt
 · rw [toVs_ext (ρ.add_ext hD _ _) cs hlt]; simp
 · simpa [Loc.add] using hlen
 · cases hv'
   refine ⟨?_, ?_⟩
   · simp only [VV.lt]; exact .inr ⟨Nat.le_refl n, Nat.lt_succ_self n⟩
   · simp [toV, Loc.add, Loc.capOf]
theorem lts_app {D : Dom} {a b : List VV} (ha : VV.lts D a) (hb : VV.lts D b) : VV.lts D (a ++ b) := VV.lts_iff.2 fun v hv => (List.mem_append.1 hv).elim (VV.lts_iff.1 ha v) (VV.lts_iff.1 hb v)
theorem toVs_app (ρ : Loc) (a b : List VV) : toVs ρ (a ++ b) = toVs ρ a ++ toVs ρ b := by simp only [toVs_map, List.map_append]
theorem evAppend_ok (hT : T.ok P) (hL : Lay ρ D h i L) (hD : Fresh D n) {t tx : Nat} {x y : Operand} {a b : VV} {e : Eff} (hx : ev N fr x = toV ρ a) (hy : ev N fr y = toV ρ b) (ha : a.lt D) (hb : b.lt D) (he : evAppend T t tx a b h n = some e) :
 OpS P N ⟨dst, .call ⟨.builtin .append, #[x, y], #[t, tx]⟩, ty, pos, aft, gd⟩ fr i L (Post ρ D n e) := by
 unfold evAppend at he
 split at he
 · rename_i el _ _ _ ht
   split at he
   · rename_i te hte
     cases hb0 : Nat.blt 0 te.size with
     | false => rw [hb0] at he; cases he
     | true =>
     rw [hb0] at he
     simp only [cond_true] at he
     have hpos : 0 < te.size := by simpa [Nat.blt_eq] using hb0
     split at he
     · rename_i m news hs
       obtain ⟨n1, n2, n3⟩ := evSrc_ok hT hL hs hb
       have hu := (tget_ok hT ht).und
       simp only at hu
       obtain ⟨_, hzl, ti, z, hi, hsz, hby, hz, hzc⟩ := tget_ok hT hte
       have hzs : z.cells.size = te.size := by rw [hzc, List.size_toArray, hzl]
       have hex : ∀ w r w', (Builtin.append_ #[t, tx] ty #[toV ρ a, toV ρ b]).run P w = .ok r w' → (execOp (ev N fr) ⟨dst, .call ⟨.builtin .append, #[x, y], #[t, tx]⟩, ty, pos, aft, gd⟩).run P w = .ok (.value r) w' := by
        intro w r w' hr
        simp [execOp, resolve, hx, hy, invoke, builtin, hr]
       have grow : ∀ (base : Option Addr) (len cap : Nat) (olds : List VV) (w : World), St i L w → toV ρ a = .slice base len cap → VV.lts D olds → (Builtin.firstCells te.size len (.slice base len cap)).run P w.drew = .ok (toVs ρ olds).toArray w.drew → olds.length = len * te.size →
        cap < len + m → (len + m) * te.bytes ≤ 1099511627776 → len + m ≤ 1099511627776 → ∀ hx' : VH, Lay ρ D hx' i L → ∃ v w' i' L', (execOp (ev N fr) ⟨dst, .call ⟨.builtin .append, #[x, y], #[t, tx]⟩, ty, pos, aft, gd⟩).run P w = .ok (.value v) w' ∧ i.le i' ∧ St i' L' w' ∧
         Post ρ D n ⟨some (.sl n 0 (len + m) (.rest 0)), set n (false, .cells (olds ++ news) el te.size) hx', n + 1⟩ v i' L' := by
        intro base len cap olds w hw hav holt hold hol hcap hb1 hb2 hx' hLx
        have hr := run_append_grow_src (P := P) w t tx ty el ti z hu hi hz base len cap (toVs ρ olds) (by rw [hsz]; exact hold) (toV ρ b) m (toVs ρ news) (by rw [hsz]; exact n3 w hw) hcap (by omega) (by rw [hby]; exact growslice_fits hcap (by omega))
        rw [← hav] at hr
        have hge := grownCap_ge w (len + m) cap el
        refine post_row hLx hD.not hw (lts_app holt n1) (sp := (Builtin.zeroCells z.cells (grownCap w (len + m) cap el - (len + m))).toList) (sz := te.size) ?_ (hex w _ _ hr) ?_
        · rw [List.length_append, hol, n2, Array.length_toList, size_zeroCells, hzs, ← Nat.add_mul, ← Nat.add_mul]
          congr 1
          omega
        · rw [toVs_app]
       split at he
       ·
        split at he
        · cases he
          refine OpS.value (v := toV ρ .nils) (fun w hw => hex w _ _ ?_) (post_val hL (by simp only [VV.lt]))
          have hsr := n3 w hw
          have hn0 : news = [] := List.eq_nil_of_length_eq_zero (by simpa using n2)
          subst hn0
          simp only [toV]
          exact run_append_nothing w t tx ty el ti hu hi none 0 0 (Nat.le_refl _) _ (by rw [hsz]; exact hsr)
        · rename_i m'
          cases hbb : (Nat.ble ((m' + 1) * te.bytes) 1099511627776 && Nat.ble (m' + 1) 1099511627776) with
          | false => rw [hbb] at he; cases he
          | true =>
            rw [hbb] at he
            cases he
            simp only [Bool.and_eq_true] at hbb
            refine OpS.valueW fun w hw => ?_
            have := grow none 0 0 [] w hw (by simp only [toV]) (by simp only [VV.lts]) (run_firstCells_none w.drew te.size 0 0 0) (by simp) (by omega) (by rw [Nat.zero_add]; exact Nat.le_of_ble_eq_true hbb.1) (by rw [Nat.zero_add]; exact Nat.le_of_ble_eq_true hbb.2) h hL
            simpa using this
       · rename_i k o len c
         split at he
         · cases hc : capGe h k c len with
           | false => rw [hc] at he; cases he
           | true =>
             rw [hc] at he
             cases he
             refine OpS.value (v := toV ρ (.sl k o len c)) (fun w hw => hex w _ _ ?_) (post_val hL ha)
             have hsr := n3 w hw
             have hn0 : news = [] := List.eq_nil_of_length_eq_zero (by simpa using n2)
             subst hn0
             simp only [toV]
             exact run_append_nothing w t tx ty el ti hu hi _ len _ (capGe_ok hL hc) _ (by rw [hsz]; exact hsr)
         · rename_i m'
           split at he
           · rename_i fz l ty' sz' hk
             obtain ⟨hkD, hklt, ob, ⟨sp, rfl, hcapk⟩, hkhas⟩ := hL.has hk
             cases hc : capGe h k c (len + (m' + 1)) with
             | true =>
               rw [hc] at he
               simp only [cond_true] at he
               cases fz with
               | true => cases he
               | false =>
               simp only [cond_false] at he
               split at he
               · rename_i l' hp
                 cases he
                 obtain ⟨p1, p2⟩ := putN_ok hp
                 obtain ⟨ob, j, ⟨sp, rfl, hcapk⟩, hj⟩ := Lay.own hL hk
                 refine OpS.valueW fun w hw => ?_
                 have hg := hw.own _ (List.mem_of_getElem? hj)
                 simp only at hg
                 have hnl : (toVs ρ news).length = news.length := toVs_len ..
                 have hcell : ∀ q, q < (toVs ρ news).length → (w.cell? ⟨ρ.at_ k, o + len * te.size + q, none⟩).isSome = true := fun q hq => by
                  rw [cell_at hg, List.getElem?_append_left (by rw [toVs_len]; omega), List.getElem?_eq_getElem (by rw [toVs_len]; omega)]; rfl
                 have hfz : ∀ q, q < (toVs ρ news).length → w.frozen? ⟨ρ.at_ k, o + len * te.size + q, none⟩ = false := fun q _ => by
                  simp [World.frozen?, hg]
                 have hr := run_append_room_src (P := P) w t tx ty el ti hu hi (ρ.at_ k) o len (ρ.capOf k c) (toV ρ b) (m' + 1) (toVs ρ news) (by rw [hsz]; exact n3 w hw) (capGe_ok hL hc) (by rw [hsz]; exact hcell) (by rw [hsz]; exact hfz)
                 rw [hsz] at hr
                 have hst := St.setCells hw (vs := toVs ρ news) (o := o + len * te.size) hj (by rw [List.length_append, toVs_len, toVs_len]; omega)
                 have hlt' : VV.lts D l' := VV.lts_iff.2 fun u hu => by
                  rw [p2, List.mem_append, List.mem_append] at hu
                  rcases hu with (hu | hu) | hu
                  · exact VV.lts_iff.1 hklt u (List.mem_of_mem_take hu)
                  · exact VV.lts_iff.1 n1 u hu
                  · exact VV.lts_iff.1 hklt u (List.mem_of_mem_drop hu)
                 have hlen' : l'.length = l.length := by rw [p2]; simp; omega
                 refine ⟨_, _, i, _, hex w _ _ (by simp only [toV]; exact hr), Imm.le.refl i, hst, ρ, Ext.refl D ρ, Nat.le_refl n, ?_, fun v hv => ?_⟩
                 · refine LayP.mono (Lay.put hL (vo' := .cells l' ty' sz') hk hj hlt' ⟨sp, ?_, by rw [hlen']; exact hcapk⟩) (D.le_upto n n)
                   congr 2
                   rw [p2, toVs_app, toVs_app]
                   simp only [toVs_map, List.map_take, List.map_drop, List.length_map]
                   rw [List.take_append_of_le_length (by rw [List.length_map]; omega), List.drop_append_of_le_length (by rw [List.length_map]; omega)]
                   simp only [List.append_assoc]
                 · cases hv
                   refine ⟨?_, by simp only [toV]⟩
                   simp only [VV.lt]
                   exact .inl hkD
               · cases he
             | false =>
               rw [hc] at he
               simp only [cond_false] at he
               cases hbb : (Nat.ble ((len + (m' + 1)) * te.bytes) 1099511627776 && Nat.ble (len + (m' + 1)) 1099511627776) with
               | false => rw [hbb] at he; cases he
               | true =>
               rw [hbb] at he
               simp only [cond_true] at he
               simp only [Bool.and_eq_true] at hbb
               have hb1 := Nat.le_of_ble_eq_true hbb.1
               have hb2 := Nat.le_of_ble_eq_true hbb.2
               split at he
               · rename_i c'
                 cases hcc : Nat.blt c' (len + (m' + 1)) with
                 | false => rw [hcc] at he; cases he
                 | true =>
                 rw [hcc] at he
                 simp only [cond_true] at he
                 split at he
                 · rename_i olds hol
                   cases he
                   obtain ⟨t1, t2⟩ := takeN_ok hol
                   rw [dropN_eq] at t1
                   refine OpS.valueW fun w hw => ?_
                   refine grow (some ⟨ρ.at_ k, o, none⟩) len c' olds w hw (by simp only [toV, Loc.capOf]) ?_ (run_firstCells_some w.drew te.size len _ len c' (toVs ρ olds) (by rw [toVs_len, t2]) fun q u hq => ?_) t2 (by simpa [Nat.blt_eq] using hcc) hb1 hb2 h hL
                   · exact VV.lts_iff.2 fun v hv => VV.lts_iff.1 hklt v (List.mem_of_mem_drop (List.mem_of_mem_take (by rw [← t1]; exact hv)))
                   · rw [Addr.add_none]
                     show w.cell? _ = _
                     rw [cell_at (hkhas.block hw)]
                     rw [toVs_map, List.getElem?_map, t1, List.getElem?_take] at hq
                     split at hq
                     · rw [List.getElem?_drop] at hq
                       cases hg : l[o + q]? with
                       | none => rw [hg] at hq; cases hq
                       | some c =>
                         rw [hg] at hq
                         cases hq
                         have hlt := (List.getElem?_eq_some_iff.1 hg).1
                         rw [List.getElem?_append_left (by rw [toVs_len]; exact hlt), toVs_map, List.getElem?_map, hg]; rfl
                     · cases hq
                 · cases he
               · cases hcc : (!fz && Nat.beq o 0 && Nat.beq l.length (len * te.size) && Nat.beq ty' el && Nat.beq sz' te.size) with
                 | false => rw [hcc] at he; cases he
                 | true =>
                 rw [hcc] at he
                 cases he
                 simp only [Bool.and_eq_true, Bool.not_eq_true'] at hcc
                 obtain ⟨⟨⟨⟨q1, q2⟩, q3⟩, q4⟩, q5⟩ := hcc
                 have q2 := Nat.eq_of_beq_eq_true q2
                 have q3 := Nat.eq_of_beq_eq_true q3
                 have q4 := Nat.eq_of_beq_eq_true q4
                 have q5 := Nat.eq_of_beq_eq_true q5
                 subst q1; subst q2; subst q4; subst q5
                 obtain ⟨ob, j, ⟨sp, rfl, hcapk⟩, hj⟩ := Lay.own hL hk
                 refine OpS.valueW fun w hw => ?_
                 have hg := hw.own _ (List.mem_of_getElem? hj)
                 simp only at hg
                 by_cases hroom : len + (m' + 1) ≤ ρ.cap k
                 ·
                  have n2' : news.length = (m' + 1) * te.size := n2
                  have hspl : news.length ≤ sp.length := by
                   have := Nat.mul_le_mul_right te.size hroom
                   rw [Nat.add_mul] at this
                   omega
                  have hcell : ∀ q, q < (toVs ρ news).length → (w.cell? ⟨ρ.at_ k, 0 + len * te.size + q, none⟩).isSome = true := fun q hq => by
                   rw [toVs_len] at hq
                   rw [cell_at hg, List.getElem?_eq_getElem (by rw [List.length_append, toVs_len]; omega)]; rfl
                  have hfz : ∀ q, q < (toVs ρ news).length → w.frozen? ⟨ρ.at_ k, 0 + len * te.size + q, none⟩ = false := fun q _ => by
                   simp [World.frozen?, hg]
                  have hr := run_append_room_src (P := P) w t tx ty ty' ti hu hi (ρ.at_ k) 0 len (ρ.cap k) (toV ρ b) (m' + 1) (toVs ρ news) (by rw [hsz]; exact n3 w hw) hroom (by rw [hsz]; exact hcell) (by rw [hsz]; exact hfz)
                  rw [hsz] at hr
                  have hst := St.setCells hw (vs := toVs ρ news) (o := 0 + len * te.size) hj (by rw [List.length_append, toVs_len, toVs_len]; omega)
                  refine ⟨_, _, i, _, hex w _ _ (by simp only [toV, Loc.capOf, Nat.sub_zero]; exact hr), Imm.le.refl i, hst, ρ.add n (ρ.at_ k) (ρ.cap k), ρ.add_ext hD.not _ _, Nat.le_succ n, (Lay.move hL hD.not (vo' := .cells (l ++ news) ty' te.size) hk hj (VV.lts_mono (D.le_add n) _ (lts_app hklt n1)) ⟨sp.drop news.length, ?_, ?_⟩).mono (add_upto D n), fun v hv => ?_⟩
                  · rw [toVs_ext (ρ.add_ext hD.not _ _) _ (lts_app hklt n1), toVs_app]
                    congr 2
                    have e1 : (toVs ρ l ++ sp).take (0 + len * te.size) = toVs ρ l := by
                     rw [Nat.zero_add, ← q3, ← toVs_len ρ l, List.take_left]
                    have e2 : (toVs ρ l ++ sp).drop (0 + len * te.size + (toVs ρ news).length) = sp.drop news.length := by
                     rw [Nat.zero_add, ← q3, toVs_len, ← toVs_len ρ l, ← List.drop_drop, List.drop_left]
                    rw [e1, e2]
                  · rw [List.length_append, List.length_drop]
                    simp only [Loc.add, if_true]
                    omega
                  · cases hv
                    refine ⟨?_, ?_⟩
                    · simp only [VV.lt]; exact .inr ⟨Nat.le_refl n, Nat.lt_succ_self n⟩
                    · simp [toV, Loc.add, Loc.capOf]
                 ·
                  refine grow (some ⟨ρ.at_ k, 0, none⟩) len (ρ.cap k) l w hw (by simp only [toV, Loc.capOf, Nat.sub_zero]) hklt (run_firstCells_some w.drew te.size len _ len _ (toVs ρ l) (by rw [toVs_len, q3]) fun q u hq => ?_) q3 (by omega) hb1 hb2 (del k h) (Lay.del hL k)
                  rw [Addr.add_none]
                  show w.cell? _ = _
                  rw [cell_at hg, Nat.zero_add, List.getElem?_append_left (List.getElem?_eq_some_iff.1 hq).1, hq]
               · cases he
           · cases he
       · cases he
     · cases he
   · cases he
 · cases he
end
end
end Go.Eng.Ev
namespace Go.Eng.Ev
noncomputable section
open Go Go.Eng
section
variable {Γ : Tab → Plans → Code → Prop} {ρ : Loc} {D : Dom} {n N G : Nat} {f : Tr VV} {h : VH} {fr : Fr} {P : Program} {T : Tab} {i : Imm} {L : SH} {dst : Option Nat} {ty : TypeId} {pos : String} {aft : Array Edge} {gd : Option (Nat × Bool)}
def repV (zs : List VV) : Nat → List VV
 | 0 => []
 | k + 1 => zs ++ repV zs k
theorem repV_len (zs : List VV) : ∀ k, (repV zs k).length = k * zs.length
 | 0 => by simp [repV]
 | k + 1 => by rw [repV, List.length_append, repV_len zs k, Nat.succ_mul]; omega
theorem repV_get (zs : List VV) : ∀ k j, j < k * zs.length → (repV zs k)[j]? = zs[j % zs.length]?
 | 0, j, h => by simp at h
 | k + 1, j, h => by
   rw [repV, List.getElem?_append]
   by_cases hj : j < zs.length
   · rw [if_pos hj, Nat.mod_eq_of_lt hj]
   · rw [if_neg hj, repV_get zs k (j - zs.length) (by rw [Nat.add_mul, Nat.one_mul] at h; omega), ← Nat.mod_eq_sub_mod (by omega)]
def evMake (T : Tab) (N G : Nat) (f : Tr VV) (t : Nat) (x y : Operand) (n : Nat) : Option (VV × VO) :=
 match tget T t with
 | some ⟨.slice e, _, _, _⟩ => (match tget T e with
   | some te => (match evO N G f x with
     | some (.int _ (.ofNat l)) => (match evO N G f y with
       | some (.int _ (.ofNat c)) => (match ofCs te.zero with
         | some zs => bif Nat.ble l c && Nat.blt 0 te.size && Nat.ble (te.bytes * c) 16777216 && Nat.ble c 16777216 then some (.sl n 0 l (.fix c), .cells (repV zs c) e te.size) else none
         | none => none)
       | _ => none)
     | _ => none)
   | none => none)
 | _ => none
theorem evMake_ok (hT : T.ok P) (hS : Slots ρ D f fr) (hG : Glob Γ ρ D G) {t : Nat} {x y : Operand} {v : VV} {vo : VO} (he : evMake T N G f t x y n = some (v, vo)) : OpS P N ⟨dst, .makeSlice t x y, ty, pos, aft, gd⟩ fr i L (NewP ρ D n v vo i L) := by
 unfold evMake at he
 split at he
 · rename_i e _ _ _ ht
   split at he
   · rename_i te hte
     split at he
     · rename_i k1 l hx
       split at he
       · rename_i k2 c hy
         split at he
         · rename_i zs hzs
           cases hb : (Nat.ble l c && Nat.blt 0 te.size && Nat.ble (te.bytes * c) 16777216 && Nat.ble c 16777216) with
           | false => rw [hb] at he; cases he
           | true =>
             rw [hb] at he
             cases he
             simp only [Bool.and_eq_true, Nat.blt_eq] at hb
             obtain ⟨⟨⟨b1, b2⟩, b3⟩, b4⟩ := hb
             have b1 := Nat.le_of_ble_eq_true b1
             have b3 := Nat.le_of_ble_eq_true b3
             have b4 := Nat.le_of_ble_eq_true b4
             have hx' := (evO_ok hS hG hx).2
             have hy' := (evO_ok hS hG hy).2
             simp only [toV] at hx' hy'
             have hu := (tget_ok hT ht).und
             simp only at hu
             obtain ⟨_, hzl, ti, z, hi, hs, hbb, hz, hzc⟩ := tget_ok hT hte
             obtain ⟨z1, z2⟩ := ofCs_ok ρ D hzs
             have hzlen : zs.length = te.size := by rw [← hzl, ← z2, toVs_len]
             have hzz : z.cells = (toVs ρ zs).toArray := by rw [hzc, z2]
             refine new_of (mk := fun b => .slice (some ⟨b, 0, none⟩) l c) (ob := .cells (madeCells z.cells (c * te.size)) e (0, 0)) (c := c) (OpS.valueW fun w hw => ?_) ?_ (by simp [VV.lt, Dom.add]) (fun b => ⟨[], ?_, ?_⟩) fun b => ?_
             · have hbytes : ((ti.bytes : Int) * (c : Int)) ≤ 281474976710656 := by rw [hbb, ← Int.natCast_mul]; omega
               have hr := run_make (P := P) w t e ti z hu hi hz k1 k2 (l : Int) (c : Int) (by omega) (by omega) hbytes (by omega)
               simp only [Int.toNat_natCast, hs] at hr
               refine ⟨_, w.alloc (.cells (madeCells z.cells (c * te.size)) e (0, 0)), i, _, ?_, Imm.le.refl i, St.push hw rfl rfl rfl rfl, w.heap.size, rfl, rfl, rfl⟩
               simp only [execOp, hx', hy']
               simp [hr]
             · simp only [VO.lt]
               refine VV.lts_iff.2 fun v hv => ?_
               have : ∀ k, v ∈ repV zs k → v ∈ zs := by
                intro k
                induction k with
                | zero => intro h; cases h
                | succ k ih => intro h; rw [repV, List.mem_append] at h; exact h.elim id ih
               exact VV.lt_mono (D.le_add n) v (VV.lts_iff.1 z1 v (this c hv))
             · have e1 : toVs (ρ.add n b c) zs = toVs ρ zs := by
                rw [(ofCs_ok (ρ.add n b c) D hzs).2, z2]
               have : (madeCells z.cells (c * te.size)) = (toVs (ρ.add n b c) (repV zs c)).toArray := by
                apply Array.ext_getElem?
                intro j
                rw [show ((toVs (ρ.add n b c) (repV zs c)).toArray)[j]? = ((repV zs c)[j]?).map (toV (ρ.add n b c)) from by rw [List.getElem?_toArray, toVs_map, List.getElem?_map]]
                by_cases hj : j < c * te.size
                · rw [repV_get zs c j (by rw [hzlen]; exact hj), hzlen]
                  unfold madeCells
                  rw [Array.getElem?_map, Array.getElem?_range, if_pos hj, Option.map_some, hzz]
                  have hm : j % te.size < zs.length := by rw [hzlen]; exact Nat.mod_lt _ b2
                  have hsz' : (toVs ρ zs).toArray.size = te.size := by rw [List.size_toArray, toVs_len, hzlen]
                  rw [hsz']
                  have h3 : ((toVs ρ zs).toArray)[j % te.size]? = some (toV ρ zs[j % te.size]) := by
                   rw [List.getElem?_toArray, toVs_map, List.getElem?_map, List.getElem?_eq_getElem hm]; rfl
                  rw [getElem!_def, h3, List.getElem?_eq_getElem hm]
                  have h4 : toV (ρ.add n b c) zs[j % te.size] = toV ρ zs[j % te.size] := by
                   have h5 := congrArg (fun l => l[j % te.size]?) e1
                   simp only [toVs_map, List.getElem?_map, List.getElem?_eq_getElem hm, Option.map_some, Option.some.injEq] at h5
                   exact h5
                  simp [h4]
                · have h1 : (repV zs c)[j]? = none := by rw [List.getElem?_eq_none_iff, repV_len, hzlen]; omega
                  have h2 : (madeCells z.cells (c * te.size))[j]? = none := by
                   unfold madeCells
                   rw [Array.getElem?_map, Array.getElem?_range, if_neg hj]; rfl
                  rw [h1, h2]; rfl
               rw [List.append_nil, this]
             · simp only [List.length_nil, Nat.add_zero, repV_len, hzlen]; simp [Loc.add]
             · simp [toV, Loc.add, Loc.capOf]
         · cases he
       · cases he
     · cases he
   · cases he
 · cases he
def strOf : List VV → Option (List Nat)
 | [] => some []
 | .int .u8 (.ofNat a) :: l => (match strOf l with
   | some s => some (a :: s)
   | none => none)
 | _ => none
theorem strOf_ok {ρ : Loc} : ∀ {l : List VV} {s : List Nat}, strOf l = some s → ∀ acc : ByteArray, Go.Eng.bytesOf (toVs ρ l) acc = some (acc ++ Ev.bytesOf s)
 | [], s, h, acc => by
   cases h
   simp only [toVs, Go.Eng.bytesOf, Option.some.injEq]
   apply ByteArray.ext
   simp [Ev.bytesOf]
 | v :: l, s, h, acc => by
   unfold strOf at h
   split at h
   · rename_i hq; cases hq
   · rename_i a l' hq
     cases hq
     split at h
     · rename_i s' hs
       cases h
       have ih := strOf_ok (ρ := ρ) hs (acc.push (UInt8.ofNat a))
       simp only [toVs, toV, Go.Eng.bytesOf]
       have e1 : (Int.ofNat a).toNat = a := rfl
       rw [e1, ih]
       congr 1
       apply ByteArray.ext
       simp [Ev.bytesOf, ByteArray.push]
     · cases h
   · cases h
def evBytesS (T : Tab) (s d : Nat) (h : VH) (a : VV) : Option VV :=
 match tget T s with
 | some ⟨.slice e, _, _, _⟩ => (match tget T e with
   | some ⟨.int .u8, _, _, _⟩ => (match tget T d with
     | some ⟨.string, _, _, _⟩ => (match a with
       | .nils => some (.str [])
       | .sl k o m _ => (match rowOf (get k h) with
         | some l => (match takeN m (dropN o l) with
           | some r => (match strOf r with
             | some s => some (.str s)
             | none => none)
           | none => none)
         | _ => none)
       | _ => none)
     | _ => none)
   | _ => none)
 | _ => none
theorem evBytesS_ok (hT : T.ok P) (hL : Lay ρ D h i L) {s d : Nat} {x : Operand} {a v : VV} (hx : ev N fr x = toV ρ a) (he : evBytesS T s d h a = some v) : v.lt D ∧ LV P N fr i L ⟨dst, .convert s d x, ty, pos, aft, gd⟩ (toV ρ v) := by
 unfold evBytesS at he
 split at he
 · rename_i e _ _ _ hs
   split at he
   · rename_i _ _ _ hte
     split at he
     · rename_i _ _ _ hd
       have u1 := (tget_ok hT hs).und
       have u2 := (tget_ok hT hte).und
       have u3 := (tget_ok hT hd).und
       simp only at u1 u2 u3
       split at he
       · cases he
         refine ⟨by simp only [VV.lt], ?_⟩
         unfold LV; intro w hw
         simp only [toV] at hx ⊢
         simp [execOp, hx, convert, run_underlying u1, run_underlying u2, run_underlying u3, Conv.bytesToString]
         rfl
       · rename_i k o m c
         split at he
         · rename_i l hk
           split at he
           · rename_i r hr
             split at he
             · rename_i str hstr
               cases he
               obtain ⟨h4, sp, ty', fz, h6⟩ := rowOf_ok (k := k) hL (fun _ _ e => e) hk
               obtain ⟨t1, t2⟩ := takeN_ok hr
               rw [dropN_eq] at t1
               refine ⟨by simp only [VV.lt], ?_⟩
               unfold LV; intro w hw
               have hc := run_loadCells_list (P := P) w ⟨ρ.at_ k, o, none⟩ (toVs ρ r) (fun j u hj => by
                rw [Addr.add_none, cell_at (h6.block hw)]
                rw [toVs_map, List.getElem?_map, t1, List.getElem?_take] at hj
                split at hj
                · rw [List.getElem?_drop] at hj
                  cases hg : l[o + j]? with
                  | none => rw [hg] at hj; cases hj
                  | some c =>
                    rw [hg] at hj
                    cases hj
                    have hlt := (List.getElem?_eq_some_iff.1 hg).1
                    rw [List.getElem?_append_left (by rw [toVs_len]; exact hlt), toVs_map, List.getElem?_map, hg]; rfl
                · cases hj)
               rw [toVs_len, t2] at hc
               simp only [toV] at hx ⊢
               have hb := strOf_ok (ρ := ρ) hstr ByteArray.empty
               have he0 : ByteArray.empty ++ Ev.bytesOf str = Ev.bytesOf str := by apply ByteArray.ext; simp
               rw [he0] at hb
               simp only [execOp, hx, convert, run_underlying u1, run_underlying u2, run_underlying u3, Conv.bytesToString, Sem.run_bind, Result.andThen_ok, hc, List.forIn_toArray]
               rw [run_bytes w _ (fun _ _ => rfl) _ ByteArray.empty _ hb]
               simp
             · cases he
           · cases he
         · cases he
       · cases he
     · cases he
   · cases he
 · cases he
def evLenM (T : Tab) (t : Nat) (h : VH) (a : VV) : Option VV :=
 match tget T t with
 | some ⟨.map _ _, _, _, _⟩ => (match esOf h a with
   | some es => some (.int .i64 (.ofNat es.length))
   | none => none)
 | _ => none
theorem evLenM_ok (hT : T.ok P) (hL : Lay ρ D h i L) {t : Nat} {x : Operand} {a v : VV} (hx : ev N fr x = toV ρ a) (ha : a.lt D) (he : evLenM T t h a = some v) : v.lt D ∧ LV P N fr i L ⟨dst, .call ⟨.builtin .len, #[x], #[t]⟩, ty, pos, aft, gd⟩ (toV ρ v) := by
 unfold evLenM at he
 split at he
 · rename_i kt et _ _ _ ht
   split at he
   · rename_i es hes
     cases he
     have u1 := (tget_ok hT ht).und
     simp only at u1
     obtain ⟨_, e2⟩ := esOf_ok hL hes ha
     refine ⟨by simp only [VV.lt], ?_⟩
     unfold LV; intro w hw
     rcases e2 with ⟨e2, e3⟩ | ⟨b, c, e2, e3⟩
     · subst e3
       rw [e2] at hx
       simp only [toV]
       simp [execOp, resolve, hx, invoke, builtin, Builtin.len_, run_underlying u1]
       rfl
     · rw [e2] at hx
       have g1 : (getObj b).run P w = .ok (.map (entR ρ es).toArray c) w := run_getObj_m (e3.block hw)
       simp only [toV]
       simp [execOp, resolve, hx, invoke, builtin, Builtin.len_, run_underlying u1, g1, goInt, entR]
   · cases he
 · cases he
def evSBytes (T : Tab) (N G : Nat) (f : Tr VV) (s d : Nat) (x : Operand) (n : Nat) : Option (VV × VO) :=
 match tget T s with
 | some ⟨.string, _, _, _⟩ => (match tget T d with
   | some ⟨.slice e, _, _, _⟩ => (match tget T e with
     | some ⟨.int .u8, _, _, _⟩ => (match evO N G f x with
       | some (.str l) => some (.sl n 0 l.length (.rest 0), .row (l.map fun a => .int .u8 (Int.ofNat (Nat.mod a 256))) e 1)
       | _ => none)
     | _ => none)
   | _ => none)
 | _ => none
theorem evSBytes_ok (hT : T.ok P) (hS : Slots ρ D f fr) (hG : Glob Γ ρ D G) {s d : Nat} {x : Operand} {v : VV} {vo : VO} (he : evSBytes T N G f s d x n = some (v, vo)) : OpS P N ⟨dst, .convert s d x, ty, pos, aft, gd⟩ fr i L (NewP ρ D n v vo i L) := by
 unfold evSBytes at he
 split at he
 · rename_i _ _ _ hs
   split at he
   · rename_i e _ _ _ hd
     split at he
     · rename_i _ _ _ hte
       split at he
       · rename_i l hx
         cases he
         have u1 := (tget_ok hT hs).und
         have u2 := (tget_ok hT hd).und
         have u3 := (tget_ok hT hte).und
         simp only at u1 u2 u3
         have hx' := (evO_ok hS hG hx).2
         simp only [toV] at hx'
         have hlen : (bytesOf l).size = l.length := by unfold bytesOf; show (l.map UInt8.ofNat).toArray.size = _; simp
         refine OpS.valueW fun w hw => ?_
         have hr := run_bytes_of_string (P := P) w s d e (bytesOf l) u1 u2 u3
         rw [hlen] at hr
         have hge := grownCap_ge w l.length 0 e
         obtain ⟨cap, hcap⟩ : ∃ cap, cap = grownCap w l.length 0 e := ⟨_, rfl⟩
         rw [← hcap] at hr hge
         refine ⟨_, w.drew.alloc (.cells (bytesRow (bytesOf l) cap) e ((bytesRow (bytesOf l) cap).size, (bytesRow (bytesOf l) cap).size + 1)), i, _, by simp only [execOp, hx']; simp [hr]; rfl, Imm.le.refl i, St.push (w := w.drew) hw.drew rfl rfl rfl rfl, rfl, by simp [VV.lt, Dom.add], ?_, w.heap.size, _, cap, rfl, ?_, (Array.replicate (cap - l.length) (.int .u8 0)).toList, ((bytesRow (bytesOf l) cap).size, (bytesRow (bytesOf l) cap).size + 1), congrArg (fun a => Obj.cells a e ((bytesRow (bytesOf l) cap).size, (bytesRow (bytesOf l) cap).size + 1)) ?_, ?_⟩
         · refine VV.lts_iff.2 fun v hv => ?_
           obtain ⟨a, _, rfl⟩ := List.mem_map.1 hv
           simp only [VV.lt]
         · simp [toV, Loc.add, Loc.capOf]
         · have e1 : toVs (ρ.add n w.heap.size cap) (l.map fun a => VV.int .u8 (Int.ofNat (Nat.mod a 256))) = byteCells (bytesOf l) := by
            rw [byteCells_of, toVs_map, List.map_map]
            refine List.map_congr_left fun x _ => ?_
            simp [toV]
           have e2 : bytesRow (bytesOf l) cap = (byteCells (bytesOf l) ++ (Array.replicate (cap - l.length) (Value.int .u8 0)).toList).toArray := by
            unfold bytesRow byteCells
            rw [hlen]
            apply Array.ext'
            simp
           rw [e1]; exact e2
         · simp only [List.length_map, Array.length_toList, Array.size_replicate]
           simp [Loc.add]
           omega
       · cases he
     · cases he
   · cases he
 · cases he
end
end
end Go.Eng.Ev
namespace Go.Eng.Ev
noncomputable section
open Go Go.Eng
section
variable {Γ : Tab → Plans → Code → Prop} {ρ : Loc} {D : Dom} {n N G : Nat} {f : Tr VV} {h : VH} {fr : Fr} {P : Program} {T : Tab} {i : Imm} {L : SH} {dst : Option Nat} {ty : TypeId} {pos : String} {aft : Array Edge} {gd : Option (Nat × Bool)}
def isC : Operand → Bool
 | .const _ => true
 | _ => false
def kindT (T : Tab) (t : Nat) : Nat :=
 match tget T t with
 | some ⟨.interface _, _, _, _⟩ => 0
 | some ⟨.func _ _ _, _, _, _⟩ => 1
 | some ⟨.slice _, _, _, _⟩ => 2
 | some ⟨.map _ _, _, _, _⟩ => 3
 | _ => 4
def eqNil (T : Tab) (t : Nat) (c : Bool) (a b : VV) : Option Bool :=
 match a, b with
 | .nili, .nili => bif c && Nat.beq (kindT T t) 0 then some true else none
 | .nili, .iface _ _ => bif Nat.beq (kindT T t) 0 then some false else none
 | .iface _ _, .nili => bif Nat.beq (kindT T t) 0 then some false else none
 | .nilf, .nilf => bif Nat.beq (kindT T t) 1 then some true else none
 | .nilf, .fn _ _ _ => bif Nat.beq (kindT T t) 1 then some false else none
 | .fn _ _ _, .nilf => bif Nat.beq (kindT T t) 1 then some false else none
 | .nils, .sl _ _ _ _ => bif Nat.beq (kindT T t) 2 then some false else none
 | .sle _ _ _ _, .nils => bif Nat.beq (kindT T t) 2 then some false else none
 | .nilm, .map _ => bif Nat.beq (kindT T t) 3 then some false else none
 | _, _ => none
def eqIf (T : Tab) (t : Nat) (a b : VV) : Option Bool :=
 match a, b with
 | .iface tx vx, .iface ty vy => bif Nat.beq (kindT T t) 0 then
  bif Nat.beq tx ty then (match tget T tx with
   | some d => bif isBasD d.desc && kindOk d.desc vx then eqK vx vy else none
   | none => none)
  else some false
   else none
 | _, _ => none
def evEqX (T : Tab) (N G : Nat) (f : Tr VV) (op : BinOp) (t : Nat) (x y : Operand) : Option VV :=
 match evO N G f x with
 | some a => (match evO N G f y with
   | some b => (match op with
     | .eql => (match eqNil T t (isC x || isC y) a b with | some r => some (.bool r) | none => (match eqIf T t a b with | some r => some (.bool r) | none => none))
     | .neq => (match eqNil T t (isC x || isC y) a b with | some r => some (.bool (!r)) | none => (match eqIf T t a b with | some r => some (.bool (!r)) | none => none))
     | _ => none)
   | none => none)
 | none => none
theorem kindT_ok (hT : T.ok P) {t k : Nat} (h : Nat.beq (kindT T t) k = true) (hk : k < 4) : (k = 0 ∧ ∃ a, P.underlying t = some (.interface a)) ∨ (k = 1 ∧ ∃ a b c, P.underlying t = some (.func a b c)) ∨ (k = 2 ∧ ∃ a, P.underlying t = some (.slice a)) ∨ (k = 3 ∧ ∃ a b, P.underlying t = some (.map a b)) := by
 have h := Nat.eq_of_beq_eq_true h
 unfold kindT at h
 split at h
 · rename_i ht; subst h; exact .inl ⟨rfl, _, (tget_ok hT ht).und⟩
 · rename_i ht; subst h; exact .inr (.inl ⟨rfl, _, _, _, (tget_ok hT ht).und⟩)
 · rename_i ht; subst h; exact .inr (.inr (.inl ⟨rfl, _, (tget_ok hT ht).und⟩))
 · rename_i ht; subst h; exact .inr (.inr (.inr ⟨rfl, _, _, (tget_ok hT ht).und⟩))
 · omega
theorem eqIf_run (hT : T.ok P) {t : Nat} {a b : VV} {r : Bool} (h : eqIf T t a b = some r) (d : Nat) (w : World) : (Op.equalIn (d + 1 + 1) t (toV ρ a) (toV ρ b)).run P w = .ok r w := by
 unfold eqIf at h
 split at h
 · rename_i tx vx ty vy
   cases hk : Nat.beq (kindT T t) 0 with
   | false => rw [hk] at h; cases h
   | true =>
   rw [hk] at h
   simp only [cond_true] at h
   rcases kindT_ok hT hk (by omega) with ⟨_, q, hu⟩ | ⟨e, _⟩ | ⟨e, _⟩ | ⟨e, _⟩
   · cases hxy : Nat.beq tx ty with
     | false =>
       rw [hxy] at h
       cases h
       have hne : tx ≠ ty := fun e => by subst e; simp at hxy
       simp [toV, Op.equalIn, run_underlying hu, hne]
     | true =>
       have := Nat.eq_of_beq_eq_true hxy
       subst this
       rw [hxy] at h
       simp only [cond_true] at h
       split at h
       · rename_i de hde
         cases hb : (isBasD de.desc && kindOk de.desc vx) with
         | false => rw [hb] at h; cases h
         | true =>
         rw [hb] at h
         simp only [cond_true] at h
         simp only [Bool.and_eq_true] at hb
         have u2 := (tget_ok hT hde).und
         obtain ⟨ti, z, hi, _⟩ := (tget_ok hT hde).info
         have hcmp := (tget_ok2 hT hde).2.2.1 ti hi hb.1
         have key : (Op.equalIn (d + 1) tx (toV ρ vx) (toV ρ vy)).run P w = .ok r w := by
          obtain ⟨_, hb2⟩ := hb
          unfold eqK at h
          split at h
          · rename_i k1 n1 k2 n2
            cases hd : decide (k1 = k2) with
            | false => rw [hd] at h; cases h
            | true =>
              rw [hd] at h
              cases h
              have hkk : k1 = k2 := by simpa using hd
              subst hkk
              cases hdd : de.desc <;> rw [hdd] at hb2 <;> first | (cases hb2; done) | skip
              rw [hdd] at u2
              simp [toV, Op.equalIn, run_underlying u2]
              rfl
          · cases h
            cases hdd : de.desc <;> rw [hdd] at hb2 <;> first | (cases hb2; done) | skip
            rw [hdd] at u2
            simp only [toV]
            rw [eqS_ok]
            simp [Op.equalIn, run_underlying u2, beq_str]
          · cases h
            cases hdd : de.desc <;> rw [hdd] at hb2 <;> first | (cases hb2; done) | skip
            rw [hdd] at u2
            simp [toV, Op.equalIn, run_underlying u2]
          · cases h
         have e1 : toV ρ (.iface tx vx) = .iface tx (toV ρ vx) := by simp only [toV]
         have e2 : toV ρ (.iface tx vy) = .iface tx (toV ρ vy) := by simp only [toV]
         rw [e1, e2, Op.equalIn]
         simp [run_underlying hu, run_info hi, hcmp, key]
       · cases h
   · cases e
   · cases e
   · cases e
 · cases h
theorem eqNil_run (hT : T.ok P) {t : Nat} {c : Bool} {a b : VV} {r : Bool} (h : eqNil T t c a b = some r) (d : Nat) (w : World) : (Op.equalIn (d + 1) t (toV ρ a) (toV ρ b)).run P w = .ok r w := by
 unfold eqNil at h
 split at h
 · cases hb : (c && Nat.beq (kindT T t) 0) with
   | false => rw [hb] at h; cases h
   | true =>
     rw [hb] at h
     cases h
     simp only [Bool.and_eq_true] at hb
     rcases kindT_ok hT hb.2 (by omega) with ⟨_, q, hu⟩ | ⟨e, _⟩ | ⟨e, _⟩ | ⟨e, _⟩
     · simp [toV, Op.equalIn, run_underlying hu]
     all_goals cases e
 all_goals first | (cases h; done) | skip
 all_goals first
  | (cases hb : Nat.beq (kindT T t) 0 with
     | false => rw [hb] at h; cases h
     | true =>
       rw [hb] at h; cases h
       rcases kindT_ok hT hb (by omega) with ⟨_, q, hu⟩ | ⟨e, _⟩ | ⟨e, _⟩ | ⟨e, _⟩
       · simp [toV, Op.equalIn, run_underlying hu]
       all_goals cases e)
  | (cases hb : Nat.beq (kindT T t) 1 with
     | false => rw [hb] at h; cases h
     | true =>
       rw [hb] at h; cases h
       rcases kindT_ok hT hb (by omega) with ⟨e, _⟩ | ⟨_, q1, q2, q3, hu⟩ | ⟨e, _⟩ | ⟨e, _⟩
       · cases e
       · simp [toV, Op.equalIn, run_underlying hu]
       all_goals cases e)
  | (cases hb : Nat.beq (kindT T t) 2 with
     | false => rw [hb] at h; cases h
     | true =>
       rw [hb] at h; cases h
       rcases kindT_ok hT hb (by omega) with ⟨e, _⟩ | ⟨e, _⟩ | ⟨_, q, hu⟩ | ⟨e, _⟩
       · cases e
       · cases e
       · simp [toV, Op.equalIn, run_underlying hu]
       all_goals cases e)
  | (cases hb : Nat.beq (kindT T t) 3 with
     | false => rw [hb] at h; cases h
     | true =>
       rw [hb] at h; cases h
       rcases kindT_ok hT hb (by omega) with ⟨e, _⟩ | ⟨e, _⟩ | ⟨e, _⟩ | ⟨_, q1, q2, hu⟩
       · cases e
       · cases e
       · cases e
       · simp [toV, Op.equalIn, run_underlying hu])
theorem eqNil_guard {op : BinOp} {t : Nat} {x y : Operand} {a b : VV} {r : Bool} (h : eqNil T t (isC x || isC y) a b = some r) (w : World) : (eqGuard op t x y (toV ρ a) (toV ρ b)).run P w = .ok () w := by
 unfold eqNil at h
 split at h
 · cases hc : (isC x || isC y) with
   | false => rw [hc] at h; cases h
   | true =>
     simp only [Bool.or_eq_true] at hc
     have hcc : (∃ v, x = .const v) ∨ ∃ v, y = .const v := by
      rcases hc with hc | hc
      · left; cases x <;> first | exact ⟨_, rfl⟩ | (cases hc; done)
      · right; cases y <;> first | exact ⟨_, rfl⟩ | (cases hc; done)
     rcases hcc with ⟨v, rfl⟩ | ⟨v, rfl⟩
     · cases op <;> simp [eqGuard, toV]
     · cases op <;> cases x <;> simp [eqGuard, toV]
 all_goals first | (cases h; done) | skip
 all_goals (cases op <;> simp [eqGuard, toV])
theorem eqNil_ok (hT : T.ok P) {t t2 : Nat} {x y : Operand} {a b : VV} {r : Bool} (hx : ev N fr x = toV ρ a) (hy : ev N fr y = toV ρ b) (h : eqNil T t (isC x || isC y) a b = some r) :
 PV P N fr ⟨dst, .binOp .eql t x y t2, ty, pos, aft, gd⟩ (.bool r) ∧ PV P N fr ⟨dst, .binOp .neq t x y t2, ty, pos, aft, gd⟩ (.bool (!r)) := by
 have e1 : ∀ w, (Op.equal t (toV ρ a) (toV ρ b)).run P w = .ok r w := fun w => eqNil_run hT h 9999 w
 have e3 : (∀ w, (binOp .eql t (toV ρ a) (toV ρ b)).run P w = ((Op.equal t (toV ρ a) (toV ρ b)).run P w).andThen fun q w' => .ok (.bool q) w') ∧ ∀ w, (binOp .neq t (toV ρ a) (toV ρ b)).run P w = ((Op.equal t (toV ρ a) (toV ρ b)).run P w).andThen fun q w' => .ok (.bool (!q)) w' := by
  clear e1 hx hy
  unfold eqNil at h
  split at h
  all_goals first | (cases h; done) | skip
  all_goals (simp only [toV]; constructor <;> (intro w; simp [binOp]))
 constructor
 · unfold PV; intro w
   have e2 := eqNil_guard (ρ := ρ) (op := .eql) h w (P := P)
   simp [execOp, hx, hy, e2, e3.1, e1]
 · unfold PV; intro w
   have e2 := eqNil_guard (ρ := ρ) (op := .neq) h w (P := P)
   simp [execOp, hx, hy, e2, e3.2, e1]
theorem eqIf_ok (hT : T.ok P) {t t2 : Nat} {x y : Operand} {a b : VV} {r : Bool} (hx : ev N fr x = toV ρ a) (hy : ev N fr y = toV ρ b) (h : eqIf T t a b = some r) :
 PV P N fr ⟨dst, .binOp .eql t x y t2, ty, pos, aft, gd⟩ (.bool r) ∧ PV P N fr ⟨dst, .binOp .neq t x y t2, ty, pos, aft, gd⟩ (.bool (!r)) := by
 have e1 : ∀ w, (Op.equal t (toV ρ a) (toV ρ b)).run P w = .ok r w := fun w => eqIf_run hT h 9998 w
 unfold eqIf at h
 split at h
 · simp only [toV] at hx hy e1
   constructor <;> (unfold PV; intro w; simp [execOp, hx, hy, eqGuard, binOp, e1])
 · cases h
theorem evEqX_ok (hT : T.ok P) (hS : Slots ρ D f fr) (hG : Glob Γ ρ D G) {op : BinOp} {t t2 : Nat} {x y : Operand} {v : VV} (he : evEqX T N G f op t x y = some v) : v.lt D ∧ PV P N fr ⟨dst, .binOp op t x y t2, ty, pos, aft, gd⟩ (toV ρ v) := by
 unfold evEqX at he
 split at he
 · rename_i a ha
   split at he
   · rename_i b hb
     split at he
     · split at he
       · rename_i r hr
         cases he
         exact ⟨by simp only [VV.lt], by simp only [toV]; exact (eqNil_ok hT (evO_ok hS hG ha).2 (evO_ok hS hG hb).2 hr).1⟩
       · split at he
         · rename_i r hr
           cases he
           exact ⟨by simp only [VV.lt], by simp only [toV]; exact (eqIf_ok hT (evO_ok hS hG ha).2 (evO_ok hS hG hb).2 hr).1⟩
         · cases he
     · split at he
       · rename_i r hr
         cases he
         exact ⟨by simp only [VV.lt], by simp only [toV]; exact (eqNil_ok hT (evO_ok hS hG ha).2 (evO_ok hS hG hb).2 hr).2⟩
       · split at he
         · rename_i r hr
           cases he
           exact ⟨by simp only [VV.lt], by simp only [toV]; exact (eqIf_ok hT (evO_ok hS hG ha).2 (evO_ok hS hG hb).2 hr).2⟩
         · cases he
     · cases he
   · cases he
 · cases he
def foldM (mx : Bool) (p : Int) : List VV → Option Int
 | [] => some p
 | .int _ q :: l => foldM mx (bif mx then (if q > p then q else p) else (if q < p then q else p)) l
 | _ => none
def evMM (T : Tab) (b : Builtin) (ts : List Nat) (vs : List VV) : Option VV :=
 match b with
 | .max => (match vs with
   | .int k p :: l => (match foldM true p l with
     | some r => some (.int k r)
     | none => none)
   | _ => none)
 | .min => (match vs with
   | .int k p :: l => (match foldM false p l with
     | some r => some (.int k r)
     | none => none)
   | _ => none)
 | .cap => (match vs, ts with
   | [.sl _ _ _ (.fix c)], [t] => bif Nat.beq (kindT T t) 2 then some (.int .i64 (.ofNat c)) else none
   | [.nils], [t] => bif Nat.beq (kindT T t) 2 then some (.int .i64 0) else none
   | _, _ => none)
 | _ => none
theorem foldM_max {k : IntKind} {w : World} : ∀ {l : List VV} {p r : Int}, foldM true p l = some r → ((toVs ρ l).foldlM Builtin.max2 (.int k p)).run P w = .ok (.int k r) w
 | [], p, r, h => by cases h; simp [toVs]
 | v :: l, p, r, h => by
   unfold foldM at h
   split at h
   · rename_i hq; cases hq
   · rename_i k' q l' hq
     cases hq
     have := foldM_max (k := k) (w := w) h
     simp only [toVs, toV, List.foldlM_cons, Builtin.max2]
     simpa using this
   · cases h
theorem foldM_min {k : IntKind} {w : World} : ∀ {l : List VV} {p r : Int}, foldM false p l = some r → ((toVs ρ l).foldlM Builtin.min2 (.int k p)).run P w = .ok (.int k r) w
 | [], p, r, h => by cases h; simp [toVs]
 | v :: l, p, r, h => by
   unfold foldM at h
   split at h
   · rename_i hq; cases hq
   · rename_i k' q l' hq
     cases hq
     have := foldM_min (k := k) (w := w) h
     simp only [toVs, toV, List.foldlM_cons, Builtin.min2]
     simpa using this
   · cases h
theorem evMM_ok (hT : T.ok P) {b : Builtin} {args : Array Operand} {ts : Array TypeId} {vs : List VV} {v : VV} (ha : args.toList.map (ev N fr) = toVs ρ vs) (h : evMM T b ts.toList vs = some v) : v.lt D ∧ PV P N fr ⟨dst, .call ⟨.builtin b, args, ts⟩, ty, pos, aft, gd⟩ (toV ρ v) := by
 have e2 : args.map (ev N fr) = (toVs ρ vs).toArray := by rw [← ha]; exact Array.ext' (by simp)
 unfold evMM at h
 split at h
 · split at h
   · rename_i k p l
     split at h
     · rename_i r hr
       cases h
       refine ⟨by simp only [VV.lt], ?_⟩
       unfold PV; intro w
       have := foldM_max (ρ := ρ) (P := P) (k := k) (w := w) hr
       simp [execOp, resolve, e2, invoke, builtin, Builtin.max_, toVs, toV, this]
     · cases h
   · cases h
 · split at h
   · rename_i k p l
     split at h
     · rename_i r hr
       cases h
       refine ⟨by simp only [VV.lt], ?_⟩
       unfold PV; intro w
       have := foldM_min (ρ := ρ) (P := P) (k := k) (w := w) hr
       simp [execOp, resolve, e2, invoke, builtin, Builtin.min_, toVs, toV, this]
     · cases h
   · cases h
 · split at h
   · rename_i b o l c t hts
     cases hb : Nat.beq (kindT T t) 2 with
     | false => rw [hb] at h; cases h
     | true =>
       rw [hb] at h; cases h
       refine ⟨by simp only [VV.lt], ?_⟩
       have et : ts = #[t] := Array.ext' hts
       rcases kindT_ok hT hb (by omega) with ⟨e, _⟩ | ⟨e, _⟩ | ⟨_, q, hu⟩ | ⟨e, _⟩
       · cases e
       · cases e
       · unfold PV; intro w
         simp [execOp, resolve, e2, et, invoke, builtin, Builtin.cap_, toVs, toV, run_underlying hu, Loc.capOf, goInt]
       · cases e
   · rename_i t hts
     cases hb : Nat.beq (kindT T t) 2 with
     | false => rw [hb] at h; cases h
     | true =>
       rw [hb] at h; cases h
       refine ⟨by simp only [VV.lt], ?_⟩
       have et : ts = #[t] := Array.ext' hts
       rcases kindT_ok hT hb (by omega) with ⟨e, _⟩ | ⟨e, _⟩ | ⟨_, q, hu⟩ | ⟨e, _⟩
       · cases e
       · cases e
       · unfold PV; intro w
         simp [execOp, resolve, e2, et, invoke, builtin, Builtin.cap_, toVs, toV, run_underlying hu, goInt]
       · cases e
   · cases h
 · cases h
end
end
end Go.Eng.Ev
namespace Go.Eng.Ev
noncomputable section
open Go Go.Eng
section
variable {Γ : Tab → Plans → Code → Prop} {ρ : Loc} {D : Dom} {n N G : Nat} {f : Tr VV} {h : VH} {fr : Fr} {P : Program} {T : Tab} {i : Imm} {L : SH} {dst : Option Nat} {ty : TypeId} {pos : String} {aft : Array Edge} {gd : Option (Nat × Bool)}
def evRangeO (T : Tab) (N G : Nat) (f : Tr VV) (t : Nat) (x : Operand) (h : VH) (n : Nat) : Option (VV × VO) :=
 match tget T t with
 | some ⟨.map _ _, _, _, _⟩ => (match evO N G f x with
   | some .nilm => some (.ptr n 0, .miter none 0 [] 0)
   | some (.map b) => (match get b h with
     | some (_, .map _ c) => some (.ptr n 0, .miter (some b) c [] c)
     | _ => none)
   | _ => none)
 | some ⟨.string, _, _, _⟩ => (match evO N G f x with
   | some (.str s) => some (.ptr n 0, .siter s 0)
   | _ => none)
 | _ => none
theorem evRangeO_ok (hT : T.ok P) (hS : Slots ρ D f fr) (hG : Glob Γ ρ D G) (hL : Lay ρ D h i L) (hD : ¬ D n) {t : Nat} {x : Operand} {v : VV} {vo : VO} (he : evRangeO T N G f t x h n = some (v, vo)) : OpS P N ⟨dst, .range t x, ty, pos, aft, gd⟩ fr i L (NewP ρ D n v vo i L) := by
 unfold evRangeO at he
 split at he
 · rename_i kt et _ _ _ ht
   have u1 := (tget_ok hT ht).und
   simp only at u1
   split at he
   · rename_i hx
     cases he
     have hx' := (evO_ok hS hG hx).2
     simp only [toV] at hx'
     refine new_of (mk := fun b => .pointer (some ⟨b, 0, none⟩)) (ob := .mapIter none 0 #[] 0) (c := 0) (OpS.valueW fun w hw => ?_) (by simp only [VO.lt]) (by simp [VV.lt, Dom.add]) (fun b => by simp [Holds]) fun b => by simp [toV, Loc.add]
     refine ⟨.pointer (some ⟨w.heap.size, 0, none⟩), w.alloc (.mapIter none 0 #[] 0), i, _, ?_, Imm.le.refl i, hw.push rfl rfl rfl rfl, w.heap.size, rfl, rfl, rfl⟩
     simp [execOp, hx', Instr.range, run_underlying u1, run_newObj_alloc]
   · rename_i b hx
     split at he
     · rename_i fz es c hb
       cases he
       obtain ⟨hlt, hx'⟩ := evO_ok hS hG hx
       simp only [toV] at hx'
       simp only [VV.lt] at hlt
       obtain ⟨_, _, o, h3, h4⟩ := hL.has hb
       have ho : o = .map (entR ρ es).toArray c := h3
       subst ho
       have hat : ∀ b' c', (ρ.add n b' c').at_ b = ρ.at_ b := fun b' c' => (ρ.add_ext hD b' c').at_ b hlt
       refine new_of (mk := fun b => .pointer (some ⟨b, 0, none⟩)) (ob := .mapIter (some (ρ.at_ b)) c #[] c) (c := 0) (OpS.valueW fun w hw => ?_) (by simp only [VO.lt]; exact .inl hlt) (by simp [VV.lt, Dom.add]) (fun b' => by simp [Holds, hat]) fun b => by simp [toV, Loc.add]
       have g1 : (getObj (ρ.at_ b)).run P w = .ok (.map (entR ρ es).toArray c) w := run_getObj_m (h4.block hw)
       refine ⟨.pointer (some ⟨w.heap.size, 0, none⟩), w.alloc (.mapIter (some (ρ.at_ b)) c #[] c), i, _, ?_, Imm.le.refl i, hw.push rfl rfl rfl rfl, w.heap.size, rfl, rfl, rfl⟩
       simp [execOp, hx', Instr.range, run_underlying u1, g1, run_newObj_alloc]
     · cases he
   · cases he
 · rename_i _ _ _ ht
   have u1 := (tget_ok hT ht).und
   simp only at u1
   split at he
   · rename_i s hx
     cases he
     have hx' := (evO_ok hS hG hx).2
     simp only [toV] at hx'
     refine new_of (mk := fun b => .pointer (some ⟨b, 0, none⟩)) (ob := .stringIter (bytesOf s) 0) (c := 0) (OpS.valueW fun w hw => ?_) (by simp only [VO.lt]) (by simp [VV.lt, Dom.add]) (fun b => by simp [Holds]) fun b => by simp [toV, Loc.add]
     refine ⟨.pointer (some ⟨w.heap.size, 0, none⟩), w.alloc (.stringIter (bytesOf s) 0), i, _, ?_, Imm.le.refl i, hw.push rfl rfl rfl rfl, w.heap.size, rfl, rfl, rfl⟩
     simp [execOp, hx', Instr.range, run_underlying u1, run_newObj_alloc]
   · cases he
 · cases he
def leftV (es : VEs) (seen : List Nat) : VEs := es.filter fun e => !hasK seen e.2.2
where hasK : List Nat → Nat → Bool
 | [], _ => false
 | a :: l, b => Nat.beq a b || hasK l b
theorem hasK_iff {l : List Nat} {b : Nat} : leftV.hasK l b = l.contains b := by
 induction l with
 | nil => rfl
 | cons a l ih =>
   simp only [leftV.hasK, ih, List.contains_cons]
   congr 1
   cases h : Nat.beq a b with
   | true => have := Nat.eq_of_beq_eq_true h; subst this; simp
   | false =>
     have : b ≠ a := fun e => by subst e; simp at h
     simpa using this
def evNext (N G : Nat) (f : Tr VV) (x : Operand) (isS : Bool) (h : VH) (n : Nat) : Option Eff :=
 match evO N G f x with
 | some (.ptr k 0) => (match get k h, isS with
   | some (false, .miter none _ _ _), false => some ⟨some (.tup [.bool false]), h, n⟩
   | some (false, .miter (some m) since seen last), false => (match get m h with
     | some (_, .map es c) => bif es.all (fun e => Nat.blt e.2.2 since) && Nat.ble since last then
      (match leftV es seen with
      | [] => some ⟨some (.tup [.bool false]), h, n⟩
      | [e] => some ⟨some (.tup [.bool true, e.1, e.2.1]), set k (false, .miter (some m) since (seen ++ [e.2.2]) c) h, n⟩
      | _ => none) else none
     | _ => none)
   | some (false, .siter s p), true => (match nth s p with
     | some a => bif Nat.blt (Nat.mod a 256) 128 then some ⟨some (.tup [.bool true, .int .i64 (.ofNat p), .int .i32 (.ofNat (Nat.mod a 256))]), set k (false, .siter s (p + 1)) h, n⟩ else none
     | none => some ⟨some (.tup [.bool false]), h, n⟩)
   | _, _ => none)
 | _ => none
theorem evNext_ok (hS : Slots ρ D f fr) (hG : Glob Γ ρ D G) (hL : Lay ρ D h i L) {x : Operand} {isS : Bool} {e : Eff} (he : evNext N G f x isS h n = some e) : OpS P N ⟨dst, .next x isS, ty, pos, aft, gd⟩ fr i L (Post ρ D n e) := by
 unfold evNext at he
 split at he
 · rename_i k hx
   have hx' := (evO_ok hS hG hx).2
   simp only [toV] at hx'
   split at he
   · rename_i s0 s1 s2 hk
     cases he
     obtain ⟨ob, j, ho, hj⟩ := Lay.own hL hk
     have ho' : ob = .mapIter none s0 s1.toArray s2 := ho
     subst ho'
     refine OpS.value (v := toV ρ (.tup [.bool false])) (fun w hw => ?_) (post_val hL (by simp [VV.lt, VV.lts]))
     have hi := hw.own _ (List.mem_of_getElem? hj)
     simp only at hi
     have g1 : (getObj (ρ.at_ k)).run P w = .ok (.mapIter none s0 s1.toArray s2) w := by simp [getObj, Sem.run, hi]
     simp [execOp, hx', Instr.next, g1, toV, toVs]
   · rename_i m since seen last hk
     split at he
     · rename_i fz es c hm
       cases hc : (es.all (fun e => Nat.blt e.2.2 since) && Nat.ble since last) with
       | false => rw [hc] at he; cases he
       | true =>
       rw [hc] at he
       simp only [cond_true, Bool.and_eq_true] at he hc
       obtain ⟨hc1, hc2⟩ := hc
       obtain ⟨ob, j, ho, hj⟩ := Lay.own hL hk
       have ho' : ob = .mapIter (some (ρ.at_ m)) since seen.toArray last := ho
       subst ho'
       obtain ⟨_, hmlt, o, h3, h4⟩ := hL.has hm
       have ho2 : o = .map (entR ρ es).toArray c := h3
       subst ho2
       have hold : ∀ x ∈ (entR ρ es).toArray.toList, x.born < since := fun x hx => by
        simp only [entR, List.toList_toArray, List.mem_map] at hx
        obtain ⟨e, he, rfl⟩ := hx
        have := List.all_eq_true.1 hc1 e he
        simpa [Nat.blt_eq] using this
       have hleft : (leftOf (entR ρ es).toArray seen.toArray).toList = entR ρ (leftV es seen) := by
        unfold leftOf leftV entR
        simp only [Array.toList_filter, List.toList_toArray]
        rw [List.filter_map]
        congr 1
        refine List.filter_congr fun x _ => ?_
        simp only [Function.comp, hasK_iff]
        simp
       have run : ∀ w, St i L w → _ := fun w hw => run_next_at (P := P) w ty (ρ.at_ k) (ρ.at_ m) since last seen.toArray (entR ρ es).toArray c (hw.own _ (List.mem_of_getElem? hj)) (h4.block hw) hold (Nat.le_of_ble_eq_true hc2)
       split at he
       · rename_i hlv
         cases he
         refine OpS.value (v := toV ρ (.tup [.bool false])) (fun w hw => ?_) (post_val hL (by simp [VV.lt, VV.lts]))
         rcases run w hw with ⟨_, hr⟩ | ⟨e, he, _⟩
         · simp only [execOp, hx']; simp [hr, toV, toVs]
         · rw [hleft, hlv] at he; cases he
       · rename_i e0 hlv
         cases he
         refine OpS.valueW fun w hw => ?_
         rcases run w hw with ⟨hz, _⟩ | ⟨e, he, w1, hal, hr⟩
         · rw [← Array.length_toList, hleft, hlv] at hz; cases hz
         · rw [hleft, hlv] at he
           simp only [entR, List.map_cons, List.map_nil, List.mem_singleton] at he
           subst he
           have hw1 : St i L w1 := by
            rcases hal with rfl | rfl
            · exact hw
            · exact hw.drew
           have he0 : e0 ∈ es := by
            have : e0 ∈ leftV es seen := by rw [hlv]; simp
            unfold leftV at this
            exact (List.mem_filter.1 this).1
           have hsp : (seen.toArray.push e0.2.2) = (seen ++ [e0.2.2]).toArray := by simp
           refine ⟨_, _, i, _, by simp only [execOp, hx']; simp [hr]; exact ⟨rfl, rfl⟩, Imm.le.refl i, hw1.setBlock _ hj, ρ, Ext.refl D ρ, Nat.le_refl n, ?_, fun v hv => ?_⟩
           · refine LayP.mono (Lay.put (vo' := .miter (some m) since (seen ++ [e0.2.2]) c) hL hk hj ?_ ?_) (D.le_upto n n)
             · simp only [VO.lt]; exact (hL.ok _ _ _ hm).1
             · simp [Holds]
           · cases hv
             refine ⟨?_, by simp [toV, toVs]⟩
             simp only [VV.lt, VV.lts]
             exact ⟨trivial, VV.lt_mono (D.le_upto n n) _ (hmlt e0 he0).1, VV.lt_mono (D.le_upto n n) _ (hmlt e0 he0).2, trivial⟩
       · cases he
     · cases he
   · rename_i s p hk
     obtain ⟨ob, j, ho, hj⟩ := Lay.own hL hk
     have ho' : ob = .stringIter (bytesOf s) p := ho
     subst ho'
     have hlen : (bytesOf s).size = s.length := by unfold bytesOf; show (s.map UInt8.ofNat).toArray.size = _; simp
     split at he
     · rename_i a ha
       cases hc : Nat.blt (Nat.mod a 256) 128 with
       | false => rw [hc] at he; cases he
       | true =>
       rw [hc] at he
       cases he
       rw [nth_eq] at ha
       have hp : p < s.length := (List.getElem?_eq_some_iff.1 ha).1
       have hps : p < (bytesOf s).size := by rw [hlen]; exact hp
       have hget : ((bytesOf s)[p]'hps).toNat = a % 256 := by
        have h1 : s[p] = a := (List.getElem?_eq_some_iff.1 ha).2
        have h2 : (bytesOf s).data[p]? = some (UInt8.ofNat a) := by
         show ((s.map UInt8.ofNat).toArray)[p]? = _
         rw [List.getElem?_toArray, List.getElem?_map, ha]; rfl
        have h3 : (bytesOf s).data[p]? = some ((bytesOf s)[p]'hps) := Array.getElem?_eq_getElem (show p < (bytesOf s).data.size from hps)
        rw [h3] at h2
        rw [Option.some.inj h2]; simp
       have ha' : a % 256 < 128 := by have : Nat.mod a 256 < 128 := by simpa [Nat.blt_eq] using hc
                                      exact this
       have hdec := decode_ascii (bytesOf s) p hps (by rw [hget]; exact ha')
       rw [hget] at hdec
       refine OpS.valueW fun w hw => ?_
       have hi := hw.own _ (List.mem_of_getElem? hj)
       simp only at hi
       have g1 : (getObj (ρ.at_ k)).run P w = .ok (.stringIter (bytesOf s) p) w := by simp [getObj, Sem.run, hi]
       have g2 : (setObj (ρ.at_ k) (.stringIter (bytesOf s) (p + 1))).run P w = .ok () (ChangeMaps.setBlock w (ρ.at_ k) (.stringIter (bytesOf s) (p + 1))) := by simp [setObj, Sem.run, hi]; rfl
       refine ⟨.tuple #[.bool true, goInt p, .int .i32 ((a % 256 : Nat) : Int)], _, i, _, ?_, Imm.le.refl i, hw.setBlock (.stringIter (bytesOf s) (p + 1)) hj, ρ, Ext.refl D ρ, Nat.le_refl n, ?_, fun v hv => ?_⟩
       · simp [execOp, hx', Instr.next, g1, hps, hdec, g2, goInt]
       · exact LayP.mono (Lay.put (vo' := .siter s (p + 1)) hL hk hj (by simp only [VO.lt]) (by simp [Holds])) (D.le_upto n n)
       · cases hv
         exact ⟨by simp [VV.lt, VV.lts], by simp only [toV, toVs]; rfl⟩
     · rename_i ha
       cases he
       rw [nth_eq] at ha
       have hp : ¬ p < (bytesOf s).size := by
        rw [hlen]; intro h; rw [List.getElem?_eq_getElem h] at ha; cases ha
       refine OpS.value (v := toV ρ (.tup [.bool false])) (fun w hw => ?_) (post_val hL (by simp [VV.lt, VV.lts]))
       have hi := hw.own _ (List.mem_of_getElem? hj)
       simp only at hi
       have g1 : (getObj (ρ.at_ k)).run P w = .ok (.stringIter (bytesOf s) p) w := by simp [getObj, Sem.run, hi]
       simp [execOp, hx', Instr.next, g1, hp, toV, toVs]
   · cases he
 · cases he
def evEntry (N G : Nat) (f : Tr VV) (x : Operand) (h : VH) : Option VV :=
 match evO N G f x with
 | some (.ptr k 0) => (match get k h with
   | some (false, .miter (some m) _ seen last) => (match get m h with
     | some (_, .map es c) => (match es, seen.reverse with
       | [e], b :: _ => bif Nat.beq e.2.2 b && Nat.beq c last then some (.tup [e.1, e.2.1]) else none
       | _, _ => none)
     | _ => none)
   | _ => none)
 | _ => none
theorem evEntry_ok (hS : Slots ρ D f fr) (hG : Glob Γ ρ D G) (hL : Lay ρ D h i L) {x : Operand} {v : VV} (he : evEntry N G f x h = some v) : v.lt D ∧ LV P N fr i L ⟨dst, .entry x, ty, pos, aft, gd⟩ (toV ρ v) := by
 unfold evEntry at he
 split at he
 · rename_i k hx
   have hx' := (evO_ok hS hG hx).2
   simp only [toV] at hx'
   split at he
   · rename_i m since seen last hk
     split at he
     · rename_i fz es c hm
       split at he
       · rename_i e b sr hsr
         cases hc : (Nat.beq e.2.2 b && Nat.beq c last) with
         | false => rw [hc] at he; cases he
         | true =>
         rw [hc] at he
         cases he
         simp only [Bool.and_eq_true] at hc
         have hc1 := Nat.eq_of_beq_eq_true hc.1
         have hc2 := Nat.eq_of_beq_eq_true hc.2
         subst hc2
         obtain ⟨ob, j, ho, hj⟩ := Lay.own hL hk
         have ho' : ob = .mapIter (some (ρ.at_ m)) since seen.toArray c := ho
         subst ho'
         obtain ⟨_, hmlt, o, h3, h4⟩ := hL.has hm
         have ho2 : o = .map (entR ρ [e]).toArray c := h3
         subst ho2
         have hse : seen = sr.reverse ++ [e.2.2] := by
          have := congrArg List.reverse hsr
          simpa [hc1] using this
         refine ⟨?_, ?_⟩
         · simp only [VV.lt, VV.lts]
           exact ⟨(hmlt e (by simp)).1, (hmlt e (by simp)).2, trivial⟩
         · unfold LV; intro w hw
           have hi := hw.own _ (List.mem_of_getElem? hj)
           simp only at hi
           have hi2 : w.heap[ρ.at_ k]? = some (.mapIter (some (ρ.at_ m)) since (sr.reverse.toArray.push e.2.2) c) := by
            rw [hi, hse]; simp
           have h1 := run_entry_at (P := P) w (ρ.at_ k) (ρ.at_ m) since sr.reverse.toArray (entR ρ [e]).toArray c ⟨toV ρ e.1, toV ρ e.2.1, e.2.2⟩ hi2 (h4.block hw) (by simp [entR]) (by simp [entR])
           simp only [execOp, hx']
           simp [h1, toV, toVs]
       · cases he
     · cases he
   · cases he
 · cases he
end
end
end Go.Eng.Ev
