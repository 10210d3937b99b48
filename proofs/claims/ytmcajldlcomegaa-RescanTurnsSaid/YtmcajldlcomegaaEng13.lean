/- The proof engine, part 13: a drawn region, its states told by the set of what has been done. No condition. -/
import Derived.Test.YtmcajldlcomegaaEng12
namespace Go.Eng
open Go
def setS (s : Nat → Bool) (j : Nat) : Nat → Bool := fun k => bif Nat.beq k j then true else s k
theorem setS_same (s : Nat → Bool) (j : Nat) : setS s j j = true := by simp [setS]
theorem setS_ne (s : Nat → Bool) {j k : Nat} (h : k ≠ j) : setS s j k = s k := by
  have : Nat.beq k j = false := by
    cases hb : Nat.beq k j
    · rfl
    · exact absurd (Nat.eq_of_beq_eq_true hb) h
  simp [setS, this]
section
variable {P : Program} {all : List Oper} {n : Nat}
theorem anyWalk {F : Fence} (hF : Wd F) {head tail : List Nat} {Q : Exit → Act → World → Prop} {tops : List Oper} (hok : rgOk all head tail [] = true)
    (htops : tail.map (all.toArray[·]?) = tops.map some) (Inv : (Nat → Bool) → Act → World → Prop)
    (hstep : ∀ (s : Nat → Bool) (j : Nat) (o : Oper) (a : Act) (w : World), j ∈ head → s j = false → all[j]? = some o → (∀ e ∈ o.after, Region.binds .any e = true → s e.on = true) → Inv s a w →
      (if Region.wanted o (yielded all.toArray a.tmps) then o.wpIn F 0 P a w (fun a' w' => Inv (setS s j) a' w') Q else Inv (setS s j) (a.put o.dst undef) w))
    (hend : ∀ a w, Inv (fun k => head.contains k) a w → wpR F P all.toArray Q tops a w) :
    ∀ (fuel : Nat) (listed : Array Bool) (a : Act) (w : World), listed.size = all.length → (∀ t ∈ tail, listed.getD t false = false) →
      (∀ k o, all[k]? = some o → listed.getD k false = true → ∀ e ∈ o.after, Region.binds .any e = true → listed.getD e.on false = true) →
      fuel = (head.filter fun k => !listed.getD k false).length + tail.length → Inv (fun k => listed.getD k false) a w → wpAnyIn F 0 P .any all.toArray Q fuel listed a w := by
  simp only [rgOk, Bool.and_eq_true] at hok
  obtain ⟨⟨⟨⟨⟨hhead, hct⟩, hcl⟩, hcov⟩, hlc⟩, hseq⟩ := hok
  have hhl := okHead_lt _ _ hhead
  have cov : ∀ k, k < all.length → (k ∈ head ∧ k ∉ tail) ∨ (k ∉ head ∧ k ∈ tail) := by
    intro k hk
    have := List.all_eq_true.1 hcov k (List.mem_range.2 hk)
    simpa using this
  have full : (fun k => (headArr all head).getD k false) = fun k => head.contains k := by
    funext k
    by_cases hk : k < all.length
    · simp [headArr, hk]
    · have : head.contains k = false := by
        cases hc : head.contains k with
        | false => rfl
        | true => exact absurd (hhl k (by simpa using hc)) hk
      rw [this]
      simp [headArr, hk]
  intro fuel
  induction fuel with
  | zero =>
    intro listed a w hsz htl hcl2 hf hJ
    have htn : tail = [] := List.length_eq_zero_iff.1 (by omega)
    have hall : ∀ k ∈ head, listed.getD k false = true := by
      intro k hk
      cases hx : listed.getD k false with
      | true => rfl
      | false =>
        have : k ∈ head.filter fun k => !listed.getD k false := List.mem_filter.2 ⟨hk, by simp [hx]⟩
        rw [List.length_eq_zero_iff.1 (show (head.filter fun k => !listed.getD k false).length = 0 by omega)] at this
        cases this
    have hL : listed = headArr all head := by
      apply Array.ext
      · simp [headArr, hsz]
      · intro j h1 h2
        have hj : j < all.length := by omega
        rcases cov j hj with ⟨h3, h4⟩ | ⟨h3, h4⟩
        · have := hall j h3
          simp [h1] at this
          simp [headArr, this, h3]
        · have := htl j h4
          simp [h1] at this
          simp [headArr, this, h3]
    rw [hL] at hJ ⊢
    subst htn
    rw [full] at hJ
    exact wpAny_of_seqI [] _ tops _ _ htops hseq (hend _ _ hJ)
  | succ fuel ih =>
    intro listed a w hsz htl hcl2 hf hJ
    by_cases hall : ∀ k ∈ head, listed.getD k false = true
    · have hL : listed = headArr all head := by
        apply Array.ext
        · simp [headArr, hsz]
        · intro j h1 h2
          have hj : j < all.length := by omega
          rcases cov j hj with ⟨h3, h4⟩ | ⟨h3, h4⟩
          · have := hall j h3
            simp [h1] at this
            simp [headArr, this, h3]
          · have := htl j h4
            simp [h1] at this
            simp [headArr, this, h3]
      have hfil : (head.filter fun k => !listed.getD k false).length = 0 := by
        rw [List.length_eq_zero_iff, List.filter_eq_nil_iff]
        intro k hk; simp only [hall k hk]; decide
      rw [hL] at hJ
      rw [full] at hJ
      rw [show fuel + 1 = tail.length by omega, hL]
      exact wpAny_of_seqI tail _ tops _ _ htops hseq (hend _ _ hJ)
    · -- some head op is not listed
      have hex : ∃ k, k ∈ head ∧ listed.getD k false = false := by
        rcases Classical.em (∃ k, k ∈ head ∧ listed.getD k false = false) with h | h
        · exact h
        · exact absurd (fun k hk => by cases hx : listed.getD k false with | true => rfl | false => exact absurd ⟨k, hk, hx⟩ h) hall
      -- the first one in the head's order is ready
      have first : ∀ (r pre : List Nat), head = pre ++ r → (∀ k ∈ pre, listed.getD k false = true) → (∃ k ∈ r, listed.getD k false = false) → ∃ pre k post, head = pre ++ k :: post ∧ (∀ j ∈ pre, listed.getD j false = true) ∧ listed.getD k false = false := by
        intro r
        induction r with
        | nil => intro pre _ _ h; obtain ⟨k, hk, _⟩ := h; cases hk
        | cons y r ih2 =>
          intro pre hp hpre hx
          cases hy : listed.getD y false with
          | false => exact ⟨pre, y, r, hp, hpre, hy⟩
          | true =>
            refine ih2 (pre ++ [y]) (by simp [hp]) (fun k hk => ?_) ?_
            · rcases List.mem_append.1 hk with h | h
              · exact hpre k h
              · rw [List.mem_singleton.1 h]; exact hy
            · obtain ⟨k, hk, hkf⟩ := hx
              rcases List.mem_cons.1 hk with rfl | hk
              · rw [hy] at hkf; cases hkf
              · exact ⟨k, hk, hkf⟩
      have getDt : ∀ k, k < all.length → listed.getD k false = false → listed.getD k true = false := fun k hk h => getD_in (by omega) h
      have hne : Region.ready .any all.toArray listed ≠ [] := by
        obtain ⟨pre, k, post, hp, hpre, hk⟩ := first head [] rfl (fun _ h => by cases h) (by obtain ⟨k, h1, h2⟩ := hex; exact ⟨k, h1, h2⟩)
        obtain ⟨o, ho, _, hedge, _⟩ := okOp_pre (okHead_spec _ _ hhead pre k post hp)
        have hr : k ∈ Region.ready .any all.toArray listed := by
          refine mem_ready.2 ⟨getDt k (List.getElem?_eq_some_iff.1 ho).1 hk, o, by simpa using ho, fun e he hb => hpre _ (by simpa using hedge e he hb)⟩
        intro h0; rw [h0] at hr; cases hr
      refine ⟨fun h0 => absurd h0 hne, fun j hj => ?_⟩
      obtain ⟨hjun, oj, hoj, hpreds⟩ := mem_ready.1 hj
      have hoj' : all[j]? = some oj := by simpa using hoj
      have hjl : j < all.length := (List.getElem?_eq_some_iff.1 hoj').1
      have hjf : listed.getD j false = false := getD_both hjun
      rcases cov j hjl with ⟨hjh, hjt⟩ | ⟨hjh, hjt⟩
      · -- an operation of the head
        obtain ⟨pre, post, hp⟩ := List.append_of_mem hjh
        have hsz' : (listed.setIfInBounds j true).size = all.length := by simp [hsz]
        have htl' : ∀ t ∈ tail, (listed.setIfInBounds j true).getD t false = false := by
          intro t ht
          rw [getD_set_ne false (by rintro rfl; exact hjt ht)]; exact htl t ht
        have hjset : (listed.setIfInBounds j true).getD j false = true := by
          have : j < listed.size := by omega
          simp [this]
        have hcl' : ∀ k o, all[k]? = some o → (listed.setIfInBounds j true).getD k false = true → ∀ e ∈ o.after, Region.binds .any e = true → (listed.setIfInBounds j true).getD e.on false = true := by
          intro k o hk hl e he hb
          by_cases hjk : j = k
          · subst hjk
            have : o = oj := by rw [hoj'] at hk; exact (Option.some.inj hk).symm
            subst this
            exact getD_set_true (hpreds e he hb)
          · rw [getD_set_ne false hjk] at hl
            exact getD_set_true (hcl2 k o hk hl e he hb)
        have hfuel : fuel = (head.filter fun k => !(listed.setIfInBounds j true).getD k false).length + tail.length := by
          have hnd : (head.filter fun k => !listed.getD k false).length = (head.filter fun k => !(listed.setIfInBounds j true).getD k false).length + 1 := by
            have hjpre : j ∉ pre := by
              have hsp := okHead_spec _ _ hhead pre j post hp
              unfold okOp at hsp
              split at hsp
              · simp only [Bool.and_eq_true, Bool.not_eq_true'] at hsp
                have := hsp.1.2
                simpa using this
              · cases hsp
            have hjpost : j ∉ post := by
              intro hin
              obtain ⟨p1, p2, hpp⟩ := List.append_of_mem hin
              have hsp := okHead_spec _ _ hhead (pre ++ j :: p1) j p2 (by rw [hp, hpp]; simp)
              unfold okOp at hsp
              split at hsp
              · simp only [Bool.and_eq_true, Bool.not_eq_true'] at hsp
                have := hsp.1.2
                simp at this
              · cases hsp
            have same : ∀ l : List Nat, j ∉ l → (l.filter fun k => !(listed.setIfInBounds j true).getD k false) = l.filter fun k => !listed.getD k false := by
              intro l hl
              apply List.filter_congr
              intro k hk
              rw [getD_set_ne false (by rintro rfl; exact hl hk)]
            rw [hp, List.filter_append, List.filter_append, List.filter_cons, List.filter_cons, same pre hjpre, same post hjpost]
            simp only [hjf, hjset]
            simp
            omega
          omega
        have hst := hstep (fun k => listed.getD k false) j oj a w hjh hjf hoj' hpreds hJ
        have hset : (fun k => (listed.setIfInBounds j true).getD k false) = setS (fun k => listed.getD k false) j := by
          funext k
          by_cases hkj : k = j
          · subst hkj
            rw [setS_same, hjset]
          · rw [setS_ne _ hkj, getD_set_ne false (Ne.symm hkj)]
        unfold wpOpIn
        simp only [hoj]
        split at hst
        · rename_i hw
          rw [if_pos hw]
          refine Oper.wpIn_mono (fun a' w' hI => ih _ _ _ hsz' htl' hcl' hfuel ?_) hst
          rw [hset]; exact hI
        · rename_i hw
          rw [if_neg hw]
          refine ⟨fun f' _ => hF.fn f', ih _ _ _ hsz' htl' hcl' hfuel ?_⟩
          rw [hset]; exact hst
      · -- an operation of the tail is not ready yet
        exfalso
        obtain ⟨q, hq⟩ := List.mem_iff_getElem?.1 hjt
        cases q with
        | succ q =>
          have hqt : q < tail.length := by have := (List.getElem?_eq_some_iff.1 hq).1; omega
          have hq1 : tail[q]? = some tail[q] := List.getElem?_eq_getElem hqt
          have hw := okChain_waits _ hct q tail[q] j hq1 hq
          obtain ⟨o2, ho2, e, he, hb, hon⟩ := waits_spec hw
          have : o2 = oj := by rw [hoj'] at ho2; exact (Option.some.inj ho2).symm
          subst this
          have h1 := hpreds e he hb
          rw [hon, htl tail[q] (List.mem_of_getElem? hq1)] at h1
          cases h1
        | zero =>
          have ht1 : tail.head? = some j := by rw [List.head?_eq_getElem?]; exact hq
          -- every op of the head is listed
          have all1 : ∀ (d : Nat) (pre : List Nat) (k : Nat) (post : List Nat), head = pre ++ k :: post → post.length = d → listed.getD k false = true := by
            intro d
            induction d using Nat.strongRecOn with
            | _ d ih3 =>
              intro pre k post hp hd
              obtain ⟨o, ho, _, _, h5⟩ := okOp_pre (okHead_spec _ _ hhead pre k post hp)
              rcases h5 j ht1 with hw | ⟨k2, hk2, hw⟩
              · obtain ⟨o2, ho2, e, he, hb, hon⟩ := waits_spec hw
                have : o2 = oj := by rw [hoj'] at ho2; exact (Option.some.inj ho2).symm
                subst this
                rw [← hon]; exact hpreds e he hb
              · obtain ⟨p1, p2, hpp⟩ := List.append_of_mem hk2
                have h6 := ih3 p2.length (by rw [← hd, hpp]; simp; omega) (pre ++ k :: p1) k2 p2 (by rw [hp, hpp]; simp) rfl
                obtain ⟨o2, ho2, e, he, hb, hon⟩ := waits_spec hw
                rw [← hon]; exact hcl2 k2 o2 ho2 h6 e he hb
          obtain ⟨k, hk, hkf⟩ := hex
          obtain ⟨pre, post, hp⟩ := List.append_of_mem hk
          have := all1 post.length pre k post hp rfl
          rw [hkf] at this; cases this
/-- a region that draws its order, its states told by 'H': of what has been done, of the slots, of memory -/
theorem CS.drawH {f : Fr} {id : Nat} {i : Imm} {L : SH} {Q : Ex → Fr → Imm → SH → Prop} {tops : List Oper} (hm : P.follows .mixedOrders = true) (head tail : List Nat) (hok : rgOk all head tail [] = true) (htops0 : getAll all tail = some tops)
    (H : (Nat → Bool) → Fr → Imm → SH → Prop) (h0 : H (fun _ => false) f i L)
    (hob : ∀ j ∈ head, ∀ o, all[j]? = some o → ∀ s : Nat → Bool, s j = false → (∀ e ∈ o.after, Region.binds .any e = true → s e.on = true) → ∀ g i' L', i.le i' → H s g i' L' →
      (gok n g all o = true ∧ OpS P n o g i' L' fun v i'' L'' => H (setS s j) (updO g o.dst v) i'' L'') ∨ (gok n g all o = false ∧ H (setS s j) (updO g o.dst undef) i' L'))
    (hend : ∀ g i' L', i.le i' → H (fun k => head.contains k) g i' L' → RS P all n tops g i' L' fun f' i'' L'' => Q .normal f' i'' L'') : CS P n (.region id all.toArray true) f i L Q := by
  unfold CS
  intro Fc hFc ds w hw R hR
  refine wpIn_region_any hm ?_
  have htops := getAll_spec tail tops htops0
  have hrep : ∀ (m j : Nat), (Array.replicate m false).getD j false = false := getD_replicate_false
  have hhead : okHead all tail.head? [] head = true := by
    simp only [rgOk, Bool.and_eq_true] at hok
    exact hok.1.1.1.1.1
  have hcount : all.length = (head.filter fun k => !(Array.replicate all.length false).getD k false).length + tail.length := by
    have h1 : (head.filter fun k => !(Array.replicate all.length false).getD k false) = head := by
      rw [List.filter_eq_self]
      intro k _; simp only [hrep]; decide
    rw [h1]
    -- head and tail cover the region, each operation once
    simp only [rgOk, Bool.and_eq_true] at hok
    obtain ⟨⟨⟨⟨⟨_, _⟩, _⟩, hcov⟩, _⟩, hseq⟩ := hok
    have htn : ∀ (ts : List Nat) (listed : Array Bool), seqI all.toArray ts listed = true → ts.Nodup ∧ ∀ t ∈ ts, t < all.length ∧ listed.getD t true = false := by
      intro ts
      induction ts with
      | nil => intro _ _; exact ⟨List.nodup_nil, fun t ht => by cases ht⟩
      | cons t ts ih =>
        intro listed hs
        simp only [seqI, Bool.and_eq_true, decide_eq_true_eq] at hs
        have hr : t ∈ Region.ready .any all.toArray listed := by rw [hs.1]; simp
        obtain ⟨h2, o, ho, _⟩ := mem_ready.1 hr
        obtain ⟨i1, i2⟩ := ih _ hs.2
        have htl : t < all.length := by
          have := (Array.getElem?_eq_some_iff.1 ho).1; simpa using this
        refine ⟨List.nodup_cons.2 ⟨fun hin => ?_, i1⟩, fun x hx => ?_⟩
        · have := (i2 t hin).2
          by_cases hsz : t < listed.size
          · simp [hsz] at this
          · simp [hsz] at h2
        · rcases List.mem_cons.1 hx with rfl | hx
          · exact ⟨htl, h2⟩
          · refine ⟨(i2 x hx).1, ?_⟩
            have h3 := (i2 x hx).2
            by_cases hxt : t = x
            · subst hxt; exact h2
            · rwa [getD_set_ne true hxt] at h3
    have hhn : head.Nodup := by
      have : ∀ (r b : List Nat), okHead all tail.head? b r = true → r.Nodup := by
        intro r
        induction r with
        | nil => intro _ _; exact List.nodup_nil
        | cons x r ih =>
          intro b hb
          simp only [okHead, Bool.and_eq_true] at hb
          exact List.nodup_cons.2 ⟨fun hin => okHead_notin _ _ hb.2 x hin (by simp), ih _ hb.2⟩
      exact this head [] hhead
    obtain ⟨t1, t2⟩ := htn tail _ hseq
    have hperm : (head ++ tail).Perm (List.range all.length) := by
      refine (List.perm_ext_iff_of_nodup (List.nodup_append.2 ⟨hhn, t1, fun a ha b hb e => ?_⟩) List.nodup_range).2 fun k => ?_
      · subst e
        have := List.all_eq_true.1 hcov a (List.mem_range.2 (okHead_lt _ _ hhead a ha))
        simp [ha, hb] at this
      · rw [List.mem_append, List.mem_range]
        constructor
        · rintro (hk | hk)
          · exact okHead_lt _ _ hhead k hk
          · exact (t2 k hk).1
        · intro hk
          have := List.all_eq_true.1 hcov k (List.mem_range.2 hk)
          simp at this
          rcases this with h | h
          · exact .inl h.1
          · exact .inr h.2
    have := hperm.length_eq
    simp at this
    omega
  have := anyWalk (P := P) hFc (Q := R) (tops := tops) hok htops (fun s a w => ∃ g i' L', a = ofD n ds g ∧ i.le i' ∧ St i' L' w ∧ H s g i' L') (fun s j o a w' hj hs ho hp hI => by
    obtain ⟨g, i', L', rfl, hi, hst, hH⟩ := hI
    rw [gok_eq]
    rcases hob j hj o ho s hs hp g i' L' hi hH with ⟨hg, hop⟩ | ⟨hg, hH'⟩
    · rw [if_pos hg]
      exact hop.use hFc ds w' hst _ _ fun v i'' L'' w'' hi' hs' hH'' => ⟨_, i'', L'', rfl, hi.trans hi', hs', hH''⟩
    · rw [if_neg (by rw [hg]; decide), ofD_put]
      exact ⟨_, i', L', rfl, hi, hst, hH'⟩) (fun a w' hI => by
    obtain ⟨g, i', L', rfl, hi, hst, hH⟩ := hI
    have := hend g i' L' hi hH
    unfold RS at this
    exact this Fc hFc ds w' hst R fun f' i'' L'' w'' hi' hs' q => hR .normal f' i'' L'' w'' (hi.trans hi') hs' q) all.length (Array.replicate all.length false) (ofD n ds f) { w with drawn := w.drawn + 1 } (by simp) (fun t _ => hrep _ t)
    (fun k o _ hl => by rw [hrep] at hl; cases hl) hcount ⟨f, i, L, rfl, Imm.le.refl i, hw.drew, by
      have : (fun k => (Array.replicate all.length false).getD k false) = fun _ => false := funext fun k => hrep _ k
      rw [this]; exact h0⟩
  simpa using this
end
end Go.Eng
