/- The proof engine, part 16: a range over a function. No condition. -/
import Derived.Test.YtmcajldlcomegaaEng15
import Derived.RangeFuncLeaves
import Derived.RangeFuncSeq
namespace Go.Eng
open Go

/-! ### the iterator's side -/
/-- a call of yield for the loop l -/
def YieldS (P : Program) (l : Nat) (vs : List Value) (i : Imm) (L : SH) (Post : Bool → Imm → SH → Prop) : Prop :=
  ∀ w, St i L w → YieldAt Fence.wide 0 P l vs.toArray w fun e w' => ∃ b i' L', e = .returned (.bool b) ∧ i.le i' ∧ St i' L' w' ∧ Post b i' L'
section
variable {P : Program} {all : List Oper} {n : Nat} {r : List Oper} {f : Fr} {i : Imm} {L : SH} {dst : Option Nat} {ty : TypeId} {pos : String} {aft : Array Edge} {gd : Option (Nat × Bool)}
theorem OpS.yield {K : Value → Imm → SH → Prop} {l : Nat} {x : Operand} {as : Array Operand} {ts : Array TypeId} {vs : List Value} {Post : Bool → Imm → SH → Prop} (hx : ev n f x = .func (.yield l) #[] #[]) (ha : as.toList.map (ev n f) = vs) (h : YieldS P l vs i L Post)
    (k : ∀ b i' L', i.le i' → Post b i' L' → K (.bool b) i' L') : OpS P n ⟨dst, .call ⟨.value x, as, ts⟩, ty, pos, aft, gd⟩ f i L K := by
  unfold OpS
  intro w hw
  obtain ⟨fn, tmps, assign, body, hy, hr⟩ := h w hw
  have h1 : as.map (ev n f) = vs.toArray := by rw [← ha]; exact Array.ext' (by simp)
  have h2 : (execOp (ev n f) ⟨dst, .call ⟨.value x, as, ts⟩, ty, pos, aft, gd⟩).run P w = .ok (.round l fn tmps assign body) w := by
    simp [execOp, resolve, h1, hx, Deferred.ofValue, invoke, hy]
  rw [h2]
  exact hr.mono fun e w' ⟨b, i', L', he, hi, hs, hp⟩ => ⟨.bool b, he, i', L', hi, hs, k b i' L' hi hp⟩
theorem RS.yield {K : Fr → Imm → SH → Prop} {l : Nat} {x : Operand} {as : Array Operand} {ts : Array TypeId} {vs : List Value} {Post : Bool → Imm → SH → Prop} (h : YieldS P l vs i L Post) (hg : gok n f all ⟨dst, .call ⟨.value x, as, ts⟩, ty, pos, aft, gd⟩ = true)
    (hx : ev n f x = .func (.yield l) #[] #[]) (ha : as.toList.map (ev n f) = vs) (k : ∀ b i' L', i.le i' → Post b i' L' → RS P all n r (updO f dst (.bool b)) i' L' K) :
    RS P all n (⟨dst, .call ⟨.value x, as, ts⟩, ty, pos, aft, gd⟩ :: r) f i L K := RS.step hg (OpS.yield hx ha h k)
end
/-- what an iterator gives: 'dv', one after the other -/
def IterS (P : Program) (gf : FuncId) (caps : List Value) (dv : List (List Value)) (i : Imm) : Prop :=
  ∀ i0, i.le i0 → ∀ (l : Nat) (J : Nat → Imm → SH → Prop),
    (∀ k d i' L' R, dv[k]? = some d → i0.le i' → J k i' L' → YieldS P l d i' (L' ++ R) fun b i'' L'' => b = true ∧ ∃ L1, L'' = L1 ++ R ∧ J (k + 1) i'' L1) →
    ∀ L R, J 0 i0 L → FnS P gf (.func (.yield l) #[] #[] :: caps) i0 (L ++ R) fun _ i'' L'' => ∃ L1, L'' = L1 ++ R ∧ J dv.length i'' L1
theorem IterS.le {P : Program} {gf : FuncId} {caps : List Value} {dv : List (List Value)} {i i' : Imm} (h : IterS P gf caps dv i) (hi : i.le i') : IterS P gf caps dv i' :=
  fun i0 h0 => h i0 (hi.trans h0)

/-! ### a round -/
def updP (f : Fr) : List Nat → List Value → Fr
  | p :: ps, v :: vs => updP (upd f p v) ps vs
  | _, _ => f
theorem updP_eq (n : Nat) (ds : List Deferred) : ∀ (ps : List Nat) (vs : List Value) (f : Fr), (ps.zip vs).foldl (fun tmps (t, a) => tmps.setIfInBounds t a) (ofD n ds f).tmps = (ofD n ds (updP f ps vs)).tmps
  | [], _, _ => rfl
  | _ :: _, [], _ => rfl
  | p :: ps, v :: vs, f => by
    simp only [List.zip_cons_cons, List.foldl_cons, updP]
    have : (ofD n ds f).tmps.setIfInBounds p v = (ofD n ds (upd f p v)).tmps := congrArg Act.tmps (ofD_put n ds f (some p) v)
    rw [this]
    exact updP_eq n ds ps vs _
def loopR (fn : FuncId) (n : Nat) (f : Fr) (ps : Array Tmp) (assign body : Code) (dfr : Nat) (s : LoopState) : Obj :=
  .loop { state := s, pending := none, fn, tmps := (ofF n f).tmps, params := ps, assign, body, defers := dfr }
/-- left off its end alone -/
abbrev onlyN (K : Fr → Imm → SH → Prop) : Ex → Fr → Imm → SH → Prop := thenQ K fun _ _ _ _ => False
theorem set_mid {α : Type} (A B : List α) (x y : α) : (A ++ x :: B).set A.length y = A ++ y :: B := by
  induction A with
  | nil => rfl
  | cons a A ih => simp [ih]
theorem get_mid {α : Type} (A B : List α) (x : α) : (A ++ x :: B)[A.length]? = some x := by simp
theorem St.putMid {i : Imm} {A B : SH} {w : World} {b : Nat} {o o' : Obj} (h : St i (A ++ (b, o) :: B) w) : w.heap[b]? = some o ∧ St i (A ++ (b, o') :: B) (w.putObj b o') := by
  have hb : w.heap[b]? = some o := h.own (b, o) (by simp)
  refine ⟨hb, ?_⟩
  have := h.put (w' := w.putObj b o') (o' := o') (get_mid A B (b, o)) rfl rfl rfl (fun c => by
    by_cases hc : c = b
    · subst hc
      rw [if_pos rfl]
      exact World.putObj_heap_same (Array.getElem?_eq_some_iff.1 hb).1
    · rw [if_neg hc, World.putObj_heap_other hc])
  rwa [set_mid] at this
section
variable {P : Program} {n : Nat} {f : Fr} {i : Imm} {L R : SH}
theorem YieldS.round {l : Nat} {fn : FuncId} {ps : Array Tmp} {assign body : Code} {dfr : Nat} {d : List Value} {Post : Imm → SH → Prop} (hd : d.length = ps.size)
    (h : CS P n assign (updP f ps.toList d) i (L ++ (l, loopR fn n f ps assign body dfr .ready) :: R) (onlyN fun f1 i1 L1 => ∃ L1', L1 = L1' ++ (l, loopR fn n f ps assign body dfr .ready) :: R ∧
      CS P n body f1 i1 (L1' ++ (l, loopR fn n f ps assign body dfr .busy) :: R) (onlyN fun _ i2 L2 => ∃ L2', L2 = L2' ++ (l, loopR fn n f ps assign body dfr .busy) :: R ∧ Post i2 L2'))) :
    YieldS P l d i (L ++ (l, loopR fn n f ps assign body dfr .ready) :: R) fun b i' L' => b = true ∧ ∃ L1, L' = L1 ++ (l, loopR fn n f ps assign body dfr .ready) :: R ∧ Post i' L1 := by
  intro w hw
  have hl := (St.putMid (o' := loopR fn n f ps assign body dfr .ready) hw).1
  refine ⟨_, _, _, _, run_yield hl (by simpa using hd), roundIn_of_wpIn trivial ?_⟩
  have ht : ((ps.zip d.toArray).foldl (fun tmps (t, a) => tmps.setIfInBounds t a) (ofF n f).tmps) = (ofF n (updP f ps.toList d)).tmps := by
    rw [← updP_eq n [] ps.toList d f]
    simp only [← Array.foldl_toList, Array.toList_zip]
  have ht' : ({ tmps := (ps.zip d.toArray).foldl (fun tmps (t, a) => tmps.setIfInBounds t a) (ofF n f).tmps, defers := [] } : Act) = ofD n [] (updP f ps.toList d) := by
    rw [ht]; rfl
  refine Eq.mpr (congrArg (fun a => assign.wpIn (Fence.wide.inRound l) 0 P _ a w) ht') ?_
  refine h.use (.inr ⟨l, rfl⟩) [] w hw _ fun e f1 i1 L1 w1 hi1 hs1 q => ?_
  unfold onlyN thenQ at q
  cases e with
  | exit _ => exact q.elim
  | ret => exact q.elim
  | normal =>
    obtain ⟨L1', rfl, hb⟩ := q
    obtain ⟨hl1, hs2⟩ := St.putMid (o' := loopR fn n f ps assign body dfr .busy) hs1
    refine ⟨_, run_beginRound hl1 rfl, ?_⟩
    refine hb.use (.inr ⟨l, rfl⟩) [] _ hs2 _ fun e f2 i2 L2 w2 hi2 hs3 q => ?_
    unfold thenQ at q
    cases e with
    | exit _ => exact q.elim
    | ret => exact q.elim
    | normal =>
      obtain ⟨L2', rfl, hp⟩ := q
      obtain ⟨hl2, hs4⟩ := St.putMid (o' := loopR fn n f ps assign body dfr .ready) hs3
      exact ⟨_, _, run_endRound none hl2, _, i2, _, rfl, hi1.trans hi2, hs4, rfl, L2', rfl, hp⟩
end

/-! ### code that leaves marks among the deferred calls -/
def mark (r : Nat) : Deferred := { target := .collected r, args := #[] }
def dblk (r : Nat) : Nat × Obj := (r, .deferred (some []))
@[irreducible] def CX (P : Program) (n : Nat) (ds : List Deferred) (c : Code) (f : Fr) (i : Imm) (L : SH) (Q : List Deferred → Ex → Fr → Imm → SH → Prop) : Prop :=
  ∀ w, St i L w → ∀ Q' : Exit → Act → World → Prop, (∀ ds' e f' i' L' w', i.le i' → St i' L' w' → Q ds' e f' i' L' → Q' e.to (ofD n ds' f') w') → c.wpIn Fence.wide 0 P Q' (ofD n ds f) w
section
variable {P : Program} {n : Nat} {ds : List Deferred} {c x y : Code} {f : Fr} {i : Imm} {L : SH} {Q : List Deferred → Ex → Fr → Imm → SH → Prop}
theorem CX.use (h : CX P n ds c f i L Q) (w : World) (hw : St i L w) (R : Exit → Act → World → Prop) (hR : ∀ ds' e f' i' L' w', i.le i' → St i' L' w' → Q ds' e f' i' L' → R e.to (ofD n ds' f') w') : c.wpIn Fence.wide 0 P R (ofD n ds f) w := by
  unfold CX at h; exact h w hw R hR
theorem CX.of (h : CS P n c f i L (Q ds)) : CX P n ds c f i L Q := by
  unfold CX
  intro w hw R hR
  exact h.use (.inl rfl) ds w hw R fun e f' i' L' w' hi hs q => hR ds e f' i' L' w' hi hs q
theorem CX.seq (h : CX P n ds x f i L fun ds' e f' i' L' => thenQ (fun f' i' L' => CX P n ds' y f' i' L' Q) (Q ds') e f' i' L') : CX P n ds (.seq x y) f i L Q := by
  unfold CX
  intro w hw R hR
  refine wpIn_seq (h.use w hw _ fun ds' e f' i' L' w' hi hs q => ?_)
  unfold thenQ at q
  cases e with
  | normal =>
    simp only [Ex.to, Exit.then]
    simp only at q
    exact q.use w' hs R fun ds'' e f'' i'' L'' w'' hi' hs' q' => hR ds'' e f'' i'' L'' w'' (hi.trans hi') hs' q'
  | exit id => exact hR ds' (.exit id) f' i' L' w' hi hs q
  | ret => exact hR ds' .ret f' i' L' w' hi hs q
/-- plain code, then some that leaves marks -/
theorem CX.seqL (h : CS P n x f i L (thenQ (fun f' i' L' => CX P n ds y f' i' L' Q) (Q ds))) : CX P n ds (.seq x y) f i L Q := CX.seq (CX.of h)
theorem CX.block {id : Nat} (h : CX P n ds x f i L fun ds' e f' i' L' => blkQ id (fun f' i' L' => Q ds' .normal f' i' L') (Q ds') e f' i' L') : CX P n ds (.block id x) f i L Q := by
  unfold CX
  intro w hw R hR
  refine wpIn_block (h.use w hw _ fun ds' e f' i' L' w' hi hs q => ?_)
  unfold blkQ at q
  cases e with
  | normal => exact hR ds' .normal f' i' L' w' hi hs q
  | ret => exact hR ds' .ret f' i' L' w' hi hs q
  | exit j =>
    simp only [Ex.to, Exit.inBlock]
    simp only at q
    split at q
    · rename_i e; rw [if_pos e]; exact hR ds' .normal f' i' L' w' hi hs q
    · rename_i e; rw [if_neg e]; exact hR ds' (.exit j) f' i' L' w' hi hs q
/-- the statement: every round hands on 'I' -/
theorem CX.rangeFunc {g : Operand} {ps : Array Tmp} {assign body : Code} {gf : FuncId} {cap : List Value} {dv : List (List Value)} (I : Nat → Imm → SH → Prop) (hg : ev n f g = .func (.func gf) #[] cap.toArray) (hgf : fnOk P gf = true) (hit : IterS P gf cap dv i)
    (hps : ∀ d ∈ dv, d.length = ps.size) (h0 : I 0 i L)
    (round : ∀ k d i' L' R, dv[k]? = some d → i.le i' → I k i' L' → CS P n assign (updP f ps.toList d) i' (L' ++ R) (onlyN fun f1 i1 L1 => ∃ L1', L1 = L1' ++ R ∧
      ∀ R', CS P n body f1 i1 (L1' ++ R') (onlyN fun _ i2 L2 => ∃ L2', L2 = L2' ++ R' ∧ I (k + 1) i2 L2')))
    (post : ∀ r i' L', i.le i' → I dv.length i' L' → Q (mark r :: ds) .normal f i' (L' ++ [dblk r])) : CX P n ds (.rangeFunc g ps assign body) f i L Q := by
  unfold CX
  intro w hw R hR
  refine wpIn_rangeFunc fun fn _ => ?_
  refine ⟨_, _, _, { target := .fn (.func gf) cap.toArray, args := #[.func (.yield (w.heap.size + 1)) #[] #[]] }, (w.alloc (.deferred (some []))).alloc (loopR fn n f ps assign body w.heap.size .ready), gf, #[.func (.yield (w.heap.size + 1)) #[] #[]] ++ cap.toArray, (w.alloc (.deferred (some []))).alloc (loopR fn n f ps assign body w.heap.size .ready), run_enterLoop_outer _ _ _ _ _, ?_, fun _ _ => trivial, ?_, nofun, ?_⟩
  · simp only [resolve, ofD_eval, hg]
    simp [Deferred.ofValue, ev]
    rfl
  · simp [invoke, run_callFunc hgf]
  · have hs1 := hw.push (w' := w.alloc (.deferred (some []))) (o := .deferred (some [])) rfl rfl rfl rfl
    have hs2 := hs1.push (w' := (w.alloc (.deferred (some []))).alloc (loopR fn n f ps assign body w.heap.size .ready)) (o := loopR fn n f ps assign body w.heap.size .ready) rfl rfl rfl rfl
    have hsz : (w.alloc (.deferred (some []))).heap.size = w.heap.size + 1 := World.size_alloc ..
    rw [hsz] at hs2
    have hs3 : St i (L ++ (w.heap.size + 1, loopR fn n f ps assign body w.heap.size .ready) :: [dblk w.heap.size]) ((w.alloc (.deferred (some []))).alloc (loopR fn n f ps assign body w.heap.size .ready)) :=
      hs2.perm (List.perm_append_comm (l₁ := [(w.heap.size + 1, loopR fn n f ps assign body w.heap.size .ready), dblk w.heap.size]) (l₂ := L))
    have hf := hit i (Imm.le.refl i) (w.heap.size + 1) (fun k i' L' => ∃ L0, L' = L0 ++ (w.heap.size + 1, loopR fn n f ps assign body w.heap.size .ready) :: [dblk w.heap.size] ∧ I k i' L0) (fun k d i' L' R2 hd hi hJ => by
      obtain ⟨L0, rfl, hI⟩ := hJ
      have h1 := YieldS.round (l := w.heap.size + 1) (fn := fn) (dfr := w.heap.size) (R := [dblk w.heap.size] ++ R2) (Post := fun i2 L2 => I (k + 1) i2 L2) (hps d (List.mem_of_getElem? hd))
        ((round k d i' L0 ((w.heap.size + 1, loopR fn n f ps assign body w.heap.size .ready) :: ([dblk w.heap.size] ++ R2)) hd hi hI).mono fun e f1 i1 L1 _ q => by
          unfold onlyN thenQ at q ⊢
          cases e with
          | exit _ => exact q
          | ret => exact q
          | normal =>
            obtain ⟨L1', h2, h3⟩ := q
            exact ⟨L1', h2, h3 _⟩)
      have e1 : (L0 ++ (w.heap.size + 1, loopR fn n f ps assign body w.heap.size .ready) :: [dblk w.heap.size]) ++ R2 = L0 ++ (w.heap.size + 1, loopR fn n f ps assign body w.heap.size .ready) :: ([dblk w.heap.size] ++ R2) := by simp
      rw [e1]
      intro w2 hw2
      obtain ⟨a1, a2, a3, a4, a5, a6⟩ := h1 w2 hw2
      refine ⟨a1, a2, a3, a4, a5, a6.mono fun e w3 ⟨b, i3, L3, he, hi3, hs3', hb, L4, hL3, h4⟩ => ⟨b, i3, L3, he, hi3, hs3', hb, _, ?_, L4, rfl, h4⟩⟩
      rw [hL3]; simp) (L ++ (w.heap.size + 1, loopR fn n f ps assign body w.heap.size .ready) :: [dblk w.heap.size]) [] ⟨L, rfl, h0⟩
    have hc := hf _ (by simpa using hs3)
    refine callsIn_wide.2 ?_
    have ha : (#[Value.func (.yield (w.heap.size + 1)) #[] #[]] ++ cap.toArray) = (Value.func (.yield (w.heap.size + 1)) #[] #[] :: cap).toArray := by simp
    rw [ha]
    refine Calls.mono hc ?_
    rintro e w3 ⟨v, i3, L3, rfl, hi3, hs3', L4, rfl, L5, rfl, hI⟩
    have hs4 : St i3 (L5 ++ (w.heap.size + 1, loopR fn n f ps assign body w.heap.size .ready) :: [dblk w.heap.size]) w3 := by simpa using hs3'
    obtain ⟨hl, hs5⟩ := St.putMid (o' := loopR fn n f ps assign body w.heap.size .exhausted) hs4
    refine ⟨_, _, run_endLoop hl (by simp), ?_⟩
    have hs6 : St i3 (L5 ++ [dblk w.heap.size]) (w3.putObj (w.heap.size + 1) (loopR fn n f ps assign body w.heap.size .exhausted)) :=
      (hs5.perm (List.perm_middle)).drop
    exact hR (mark w.heap.size :: ds) .normal f i3 _ _ hi3 hs6 (post w.heap.size i3 L5 hi3 hI)
end
/-- a function whose body leaves marks -/
theorem FnS.introM {P : Program} {g : FuncId} {fn : Func} {c : Code} {args : List Value} {i : Imm} {L : SH} {Post : Value → Imm → SH → Prop} {n r : Nat}
    (hf : P.funcs[g]? = some fn) (hb : fn.body = some c) (hn : fn.ntmps = n) (hl : args.length ≤ n) (hres : fn.results = #[.tmp r])
    (h : CX P n [] c (argF 0 args) i L fun ds e f i' L' => retQ (fun f i' L' => ∃ (rs : List Nat) (L0 : SH), ds = rs.map mark ∧ L' = L0 ++ rs.map dblk ∧ Post (ev n f (.tmp r)) i' L0) e f i' L') : FnS P g args i L Post := by
  intro w hw
  refine (callsIn_wide (n := 0)).1 (callsIn_of_wp_marks hf hb trivial ?_)
  rw [hn, argF_act n args hl]
  refine h.use w hw _ fun ds e f i' L' w' hi hs q => ?_
  have key : ∀ (rs : List Nat) (L0 : SH) (w' : World), St i' (L0 ++ rs.map dblk) w' → Post (ev n f (.tmp r)) i' L0 → LeavesInM Fence.wide 0 P fn (ofD n ds f).tmps (fun e w' => ∃ v i' L', e = .returned v ∧ i.le i' ∧ St i' L' w' ∧ Post v i' L') (rs.map mark) .returning w' := by
    intro rs
    induction rs with
    | nil =>
      intro L0 w' hs hp
      refine ⟨ev n f (.tmp r), ?_, _, i', L0, rfl, hi, by simpa using hs, hp⟩
      simp only [results, hres]
      have h8 : (ofD n ds f).tmps[r]?.getD undef = ev n f (.tmp r) := evt n f r
      simp [h8]
    | cons r0 rs ih =>
      intro L0 w' hs hp
      refine ⟨by simp, .inl ⟨r0, _, rfl, run_takeDeferred (ds := []) (hs.own (dblk r0) (by simp)), ?_⟩⟩
      have hs1 : St i' (L0 ++ (r0, .deferred (some [])) :: rs.map dblk) w' := hs
      obtain ⟨_, hs2⟩ := St.putMid (o' := .deferred none) hs1
      exact ih L0 _ (hs2.perm List.perm_middle).drop hp
  unfold retQ at q
  cases e with
  | exit id => exact q.elim
  | normal =>
    obtain ⟨rs, L0, rfl, rfl, hp⟩ := q
    exact key rs L0 w' hs hp
  | ret =>
    obtain ⟨rs, L0, rfl, rfl, hp⟩ := q
    exact key rs L0 w' hs hp
end Go.Eng
