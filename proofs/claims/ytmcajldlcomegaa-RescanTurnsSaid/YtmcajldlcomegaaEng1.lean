/- The proof engine, part 1: frames as functions, a symbolic heap, and rules for regions, code and functions. No condition. -/
import Derived.Orders
import Derived.WalkKit
import Derived.Deep.LoopGhost
import Derived.OrdersIn
namespace Go.Eng
open Go

abbrev Fr := Nat → Value
def upd (f : Fr) (d : Nat) (v : Value) : Fr := fun i => bif Nat.beq i d then v else f i
def updO (f : Fr) : Option Nat → Value → Fr
  | some d, v => upd f d v
  | none, _ => f
def uF : Fr := fun _ => undef
def argF : Nat → List Value → Fr
  | _, [] => uF
  | k, a :: l => upd (argF (k + 1) l) k a
def ofD (n : Nat) (ds : List Deferred) (f : Fr) : Act := ⟨Array.ofFn (n := n) fun i => f i.val, ds⟩
abbrev ofF (n : Nat) (f : Fr) : Act := ofD n [] f
def ev (n : Nat) (f : Fr) : Operand → Value
  | .tmp t => bif Nat.blt t n then f t else undef
  | .const v => v
  | .global g => .pointer (some ⟨g, 0, none⟩)
  | .func g => .func (.func g) #[] #[]

theorem ofD_getD (n : Nat) (ds : List Deferred) (f : Fr) (t : Nat) : (ofD n ds f).tmps.getD t undef = bif Nat.blt t n then f t else undef := by
  simp only [ofD, Array.getD_eq_getD_getElem?, Array.getElem?_ofFn]
  by_cases h : t < n
  · have : Nat.blt t n = true := by simp [Nat.blt_eq, h]
    simp [h, this]
  · have : Nat.blt t n = false := by
      cases hb : Nat.blt t n
      · rfl
      · exact absurd (by simpa [Nat.blt_eq] using hb) h
    simp [h, this]

theorem ofD_get? (n : Nat) (ds : List Deferred) (f : Fr) (t : Nat) : (ofD n ds f).tmps[t]? = bif Nat.blt t n then some (f t) else none := by
  simp only [ofD, Array.getElem?_ofFn]
  by_cases h : t < n
  · have : Nat.blt t n = true := by simp [Nat.blt_eq, h]
    simp [h, this]
  · have : Nat.blt t n = false := by
      cases hb : Nat.blt t n
      · rfl
      · exact absurd (by simpa [Nat.blt_eq] using hb) h
    simp [h, this]

theorem ofD_eval (n : Nat) (ds : List Deferred) (f : Fr) : (ofD n ds f).eval = ev n f := by
  funext x
  cases x with
  | tmp t => exact ofD_getD n ds f t
  | _ => rfl

theorem upd_same (f : Fr) (d : Nat) (v : Value) : upd f d v d = v := by simp [upd]
theorem upd_ne (f : Fr) {d i : Nat} (v : Value) (h : i ≠ d) : upd f d v i = f i := by
  have : Nat.beq i d = false := by
    cases hb : Nat.beq i d
    · rfl
    · exact absurd (Nat.eq_of_beq_eq_true hb) h
  simp [upd, this]

theorem ofD_put (n : Nat) (ds : List Deferred) (f : Fr) (o : Option Nat) (v : Value) : (ofD n ds f).put o v = ofD n ds (updO f o v) := by
  cases o with
  | none => rfl
  | some d =>
    simp only [Act.put, ofD, updO, Act.mk.injEq, and_true]
    apply Array.ext_getElem?
    intro i
    rw [Array.getElem?_setIfInBounds]
    by_cases hd : d = i
    · subst hd
      by_cases h : d < n
      · simp [h, upd_same]
      · simp [h]
    · rw [if_neg hd]
      by_cases h : i < n
      · simp [h, upd_ne f v (Ne.symm hd)]
      · simp [h]

theorem argF_act (n : Nat) (l : List Value) (h : l.length ≤ n) :
    ({ tmps := l.toArray ++ Array.replicate (n - l.toArray.size) undef, defers := [] } : Act) = ofF n (argF 0 l) := by
  have key : ∀ (l : List Value) (k i : Nat), argF k l i = if k ≤ i ∧ i < k + l.length then (l[i - k]?).getD undef else undef := by
    intro l
    induction l with
    | nil => intro k i; simp [argF, uF]; 
    | cons a l ih =>
      intro k i
      simp only [argF, List.length_cons]
      by_cases hik : i = k
      · subst hik; simp [upd_same]
      · rw [upd_ne _ _ hik, ih]
        by_cases hc : k + 1 ≤ i ∧ i < k + 1 + l.length
        · rw [if_pos hc, if_pos (by omega)]
          have : i - k = (i - (k + 1)) + 1 := by omega
          rw [this]; simp
        · rw [if_neg hc, if_neg (by omega)]
  simp only [ofF, ofD, Act.mk.injEq, and_true]
  apply Array.ext_getElem?
  intro i
  rw [Array.getElem?_append, Array.getElem?_ofFn, Array.getElem?_replicate]
  simp only [List.size_toArray, List.getElem?_toArray, key]
  by_cases hi : i < l.length
  · have hn : i < n := by omega
    simp [hi, hn]
  · by_cases hn : i < n
    · have : i - l.length < n - l.length := by omega
      simp [hi, hn, this]
    · have : ¬ (i - l.length < n - l.length) := by omega
      simp [hi, hn, this]

/-! ### the symbolic heap -/
structure Imm where
  blk : Nat → Option Obj
  os : Os
  tape : Nat → Question → Nat
  output : Array (Nat × ByteArray)
structure Imm.le (i j : Imm) : Prop where
  os : j.os = i.os
  tape : j.tape = i.tape
  output : j.output = i.output
  blk : ∀ b o, i.blk b = some o → j.blk b = some o
theorem Imm.le.refl (i : Imm) : i.le i := ⟨rfl, rfl, rfl, fun _ _ h => h⟩
theorem Imm.le.trans {i j k : Imm} (h : i.le j) (h' : j.le k) : i.le k :=
  ⟨h'.os.trans h.os, h'.tape.trans h.tape, h'.output.trans h.output, fun b o hb => h'.blk b o (h.blk b o hb)⟩
abbrev SH := List (Nat × Obj)
structure St (i : Imm) (L : SH) (w : World) : Prop where
  os : w.os = i.os
  tape : w.tape = i.tape
  output : w.output = i.output
  imm : ∀ b o, i.blk b = some o → w.heap[b]? = some o
  nodup : (L.map Prod.fst).Nodup
  own : ∀ p ∈ L, w.heap[p.1]? = some p.2
  sep : ∀ p ∈ L, i.blk p.1 = none

theorem St.drew {i : Imm} {L : SH} {w : World} (h : St i L w) : St i L { w with drawn := w.drawn + 1 } :=
  ⟨h.os, h.tape, h.output, h.imm, h.nodup, h.own, h.sep⟩
theorem St.perm {i : Imm} {L L' : SH} {w : World} (h : St i L w) (hp : L.Perm L') : St i L' w :=
  ⟨h.os, h.tape, h.output, h.imm, (hp.map Prod.fst).nodup_iff.1 h.nodup, fun p m => h.own p (hp.mem_iff.2 m), fun p m => h.sep p (hp.mem_iff.2 m)⟩
/-- an owned block becomes immutable -/
def Imm.add (i : Imm) (b : Nat) (o : Obj) : Imm := { i with blk := fun c => if c = b then some o else i.blk c }
theorem St.freeze {i : Imm} {L : SH} {w : World} {b : Nat} {o : Obj} (h : St i ((b, o) :: L) w) : i.le (i.add b o) ∧ St (i.add b o) L w := by
  have hn := h.nodup
  simp only [List.map_cons, List.nodup_cons] at hn
  refine ⟨⟨rfl, rfl, rfl, fun c o' hc => ?_⟩, ⟨h.os, h.tape, h.output, fun c o' hc => ?_, hn.2, fun p m => h.own p (List.mem_cons_of_mem _ m), fun p m => ?_⟩⟩
  · have : c ≠ b := by
      rintro rfl
      have := h.sep (c, o) (List.mem_cons_self ..)
      simp [this] at hc
    simp [Imm.add, this, hc]
  · simp only [Imm.add] at hc
    split at hc
    · rename_i e; subst e; cases hc; exact h.own (c, o) (List.mem_cons_self ..)
    · exact h.imm c o' hc
  · have hne : p.1 ≠ b := by
      rintro rfl
      exact hn.1 (List.mem_map.2 ⟨p, m, rfl⟩)
    simp [Imm.add, hne, h.sep p (List.mem_cons_of_mem _ m)]
theorem St.drop {i : Imm} {L : SH} {w : World} {p : Nat × Obj} (h : St i (p :: L) w) : St i L w :=
  ⟨h.os, h.tape, h.output, h.imm, (List.nodup_cons.1 (by simpa using h.nodup)).2, fun q m => h.own q (List.mem_cons_of_mem _ m), fun q m => h.sep q (List.mem_cons_of_mem _ m)⟩
theorem St.dropL {i : Imm} {L M : SH} {w : World} (h : St i (M ++ L) w) : St i L w := by
  induction M with
  | nil => exact h
  | cons p M ih => exact ih h.drop

/-! ### activations of functions, and rounds of a range over a function -/
def Wd (F : Fence) : Prop := F = Fence.wide ∨ ∃ l, F = Fence.wide.inRound l
theorem Wd.fn {F : Fence} (h : Wd F) (f : FuncId) : F.fn f := by
  rcases h with rfl | ⟨l, rfl⟩ <;> exact trivial
theorem Wd.depth {F : Fence} (h : Wd F) {p : Prop} : F.depth.isSome = true → p := by
  rcases h with rfl | ⟨l, rfl⟩ <;> exact fun h => by cases h
theorem Wd.calls {F : Fence} (h : Wd F) {n : Nat} {P : Program} {f : FuncId} {args : Array Value} {w : World} {R : Ending → World → Prop} (k : Calls P f args w R) : CallsIn F n P f args w R := by
  rcases h with rfl | ⟨l, rfl⟩
  · exact callsIn_wide.2 k
  · exact (callsIn_wide (n := n)).2 k
theorem Wd.round {F : Fence} (h : Wd F) {n : Nat} {P : Program} {l : Nat} {f : FuncId} {tmps : Array Value} {assign body : Code} {w : World} {R : Ending → World → Prop} (k : RoundIn Fence.wide n P l f tmps assign body w R) : RoundIn F n P l f tmps assign body w R := by
  rcases h with rfl | ⟨l, rfl⟩
  · exact k
  · exact k
/-! ### one operation -/
def ResV (P : Program) (K : Value → World → Prop) : Result Next → Prop
  | .ok (.value v) w => K v w
  | .ok .skip w => K undef w
  | .ok (.enter g args) w => Calls P g args w fun e w' => ∃ v, e = .returned v ∧ K v w'
  | .ok (.round l f tmps assign body) w => RoundIn Fence.wide 0 P l f tmps assign body w fun e w' => ∃ v, e = .returned v ∧ K v w'
  | _ => False
theorem ResV.mono {P : Program} {K K' : Value → World → Prop} {r : Result Next} (h : ResV P K r) (hk : ∀ v w, K v w → K' v w) : ResV P K' r := by
  unfold ResV at *
  split at h
  · exact hk _ _ h
  · exact hk _ _ h
  · exact h.mono fun _ _ ⟨v, he, k⟩ => ⟨v, he, hk _ _ k⟩
  · exact RoundIn.mono h fun _ _ ⟨v, he, k⟩ => ⟨v, he, hk _ _ k⟩
  · exact h.elim
@[irreducible] def OpS (P : Program) (n : Nat) (o : Oper) (f : Fr) (i : Imm) (L : SH) (K : Value → Imm → SH → Prop) : Prop :=
  ∀ w, St i L w → ResV P (fun v w' => ∃ i' L', i.le i' ∧ St i' L' w' ∧ K v i' L') ((execOp (ev n f) o).run P w)

theorem semAt_of {F : Fence} {P : Program} {n : Nat} {ds : List Deferred} {o : Oper} {f : Fr} {w : World} {K : Value → World → Prop} (h : ResV P K ((execOp (ev n f) o).run P w)) : (o.semAt F.round (ofD n ds f).eval) = execOp (ev n f) o := by
  rw [ofD_eval]
  refine Oper.semAt_eq F.round (ev n f) o fun c hc => ?_
  obtain ⟨dst, op, ty, pos, aft, gd⟩ := o
  simp only at hc
  subst hc
  simp only [execOp, Sem.run_bind] at h
  cases hr : (resolve (ev n f) c ty).run P w with
  | ok x w' => rw [hr] at h; simp only [Result.andThen, Sem.run_pure] at h; exact h
  | halt x w' => rw [hr] at h; exact h
theorem OpS.use {P : Program} {n : Nat} {o : Oper} {f : Fr} {i : Imm} {L : SH} {K : Value → Imm → SH → Prop} (h : OpS P n o f i L K) {F : Fence} (hF : Wd F) (ds : List Deferred) (w : World) (hw : St i L w) (next : Act → World → Prop) (Q : Exit → Act → World → Prop)
    (hn : ∀ v i' L' w', i.le i' → St i' L' w' → K v i' L' → next (ofD n ds (updO f o.dst v)) w') : o.wpIn F 0 P (ofD n ds f) w next Q := by
  unfold OpS at h
  have := h w hw
  unfold Oper.wpIn
  refine ⟨fun f' _ => hF.fn f', ?_⟩
  rw [semAt_of this]
  unfold ResV at this
  split at this
  · rename_i v w' hr
    rw [hr]; obtain ⟨i', L', h1, h2, h3⟩ := this
    simp only [Oper.uponIn, ofD_put]; exact hn v i' L' w' h1 h2 h3
  · rename_i w' hr
    rw [hr]; obtain ⟨i', L', h1, h2, h3⟩ := this
    simp only [Oper.uponIn, ofD_put]; exact hn undef i' L' w' h1 h2 h3
  · rename_i g args w' hr
    rw [hr]
    simp only [Oper.uponIn]
    refine ⟨hF.depth, hF.calls ?_⟩
    refine this.mono ?_
    rintro e w'' ⟨v, rfl, i', L', h1, h2, h3⟩
    simp only [ofD_put]; exact hn v i' L' w'' h1 h2 h3
  · rename_i l g tmps assign body w' hr
    rw [hr]
    simp only [Oper.uponIn]
    refine ⟨hF.depth, hF.round ?_⟩
    refine this.mono ?_
    rintro e w'' ⟨v, rfl, i', L', h1, h2, h3⟩
    simp only [ofD_put]; exact hn v i' L' w'' h1 h2 h3
  · exact this.elim
theorem OpS.mono {P : Program} {n : Nat} {o : Oper} {f : Fr} {i : Imm} {L : SH} {K K' : Value → Imm → SH → Prop} (h : OpS P n o f i L K)
    (hk : ∀ v i' L', i.le i' → K v i' L' → K' v i' L') : OpS P n o f i L K' := by
  unfold OpS at *
  exact fun w hw => (h w hw).mono fun v w' ⟨i', L', h1, h2, h3⟩ => ⟨i', L', h1, h2, hk v i' L' h1 h3⟩
/-- what an operation does hangs on what it looks at alone -/
theorem OpS.congr {P : Program} {n : Nat} {o : Oper} {f g : Fr} {i : Imm} {L : SH} {K : Value → Imm → SH → Prop} (hs : ∀ cs b, o.op ≠ .select cs b) (he : ∀ x ∈ o.op.operands, ev n f x = ev n g x) (h : OpS P n o f i L K) : OpS P n o g i L K := by
  unfold OpS at *
  rw [execOp_congr o hs he] at h
  exact h

theorem OpS.value {P : Program} {n : Nat} {o : Oper} {f : Fr} {i : Imm} {L : SH} {K : Value → Imm → SH → Prop} {v : Value}
    (h : ∀ w, St i L w → (execOp (ev n f) o).run P w = .ok (.value v) w) (hk : K v i L) : OpS P n o f i L K := by
  unfold OpS
  intro w hw
  rw [h w hw]
  exact ⟨i, L, Imm.le.refl i, hw, hk⟩

theorem OpS.valueW {P : Program} {n : Nat} {o : Oper} {f : Fr} {i : Imm} {L : SH} {K : Value → Imm → SH → Prop}
    (h : ∀ w, St i L w → ∃ v w' i' L', (execOp (ev n f) o).run P w = .ok (.value v) w' ∧ i.le i' ∧ St i' L' w' ∧ K v i' L') : OpS P n o f i L K := by
  unfold OpS
  intro w hw
  obtain ⟨v, w', i', L', hr, hle, hs, hk⟩ := h w hw
  rw [hr]
  exact ⟨i', L', hle, hs, hk⟩

theorem OpS.skipW {P : Program} {n : Nat} {o : Oper} {f : Fr} {i : Imm} {L : SH} {K : Value → Imm → SH → Prop}
    (h : ∀ w, St i L w → ∃ w' i' L', (execOp (ev n f) o).run P w = .ok .skip w' ∧ i.le i' ∧ St i' L' w' ∧ K undef i' L') : OpS P n o f i L K := by
  unfold OpS
  intro w hw
  obtain ⟨w', i', L', hr, hle, hs, hk⟩ := h w hw
  rw [hr]
  exact ⟨i', L', hle, hs, hk⟩
/-- a fact of the state may be used -/
theorem OpS.facts {P : Program} {n : Nat} {o : Oper} {f : Fr} {i : Imm} {L : SH} {K : Value → Imm → SH → Prop} (h : ∀ w, St i L w → OpS P n o f i L K) : OpS P n o f i L K := by
  unfold OpS at *
  exact fun w hw => h w hw w hw

/-! ### functions -/
def FnS (P : Program) (g : FuncId) (args : List Value) (i : Imm) (L : SH) (Post : Value → Imm → SH → Prop) : Prop :=
  ∀ w, St i L w → Calls P g args.toArray w fun e w' => ∃ v i' L', e = .returned v ∧ i.le i' ∧ St i' L' w' ∧ Post v i' L'

theorem FnS.mono {P : Program} {g : FuncId} {args : List Value} {i : Imm} {L : SH} {K K' : Value → Imm → SH → Prop} (h : FnS P g args i L K)
    (hk : ∀ v i' L', i.le i' → K v i' L' → K' v i' L') : FnS P g args i L K' :=
  fun w hw => (h w hw).mono fun _ _ ⟨v, i', L', he, hi, hs, k⟩ => ⟨v, i', L', he, hi, hs, hk v i' L' hi k⟩

theorem OpS.enter {P : Program} {n : Nat} {o : Oper} {f : Fr} {i : Imm} {L : SH} {K : Value → Imm → SH → Prop} {g : FuncId} {args : List Value}
    (hx : ∀ w, (execOp (ev n f) o).run P w = .ok (.enter g args.toArray) w) (h : FnS P g args i L K) : OpS P n o f i L K := by
  unfold OpS
  intro w hw
  rw [hx w]
  exact (h w hw).mono fun e w' ⟨v, i', L', he, hi, hs, k⟩ => ⟨v, he, i', L', hi, hs, k⟩

/-! ### regions -/
def wpR (F : Fence) (P : Program) (all : Array Oper) (Q : Exit → Act → World → Prop) : List Oper → Act → World → Prop
  | [], a, w => Q .normal a w
  | o :: rest, a, w => if Region.wanted o (yielded all a.tmps) then o.wpIn F 0 P a w (wpR F P all Q rest) Q else (∀ f, o.about P w a.eval = some f → F.fn f) ∧ wpR F P all Q rest (a.put o.dst undef) w

theorem wpOps_of_wpR {F : Fence} {P : Program} {Q : Exit → Act → World → Prop} (all : List Oper) :
    ∀ (r : List Oper) (k : Nat) (a : Act) (w : World), all.drop k = r → wpR F P all.toArray Q r a w → wpOpsIn F 0 P all.toArray Q ((List.range r.length).map (k + ·)) a w := by
  intro r
  induction r with
  | nil => intro k a w _ h; simpa [wpOpsIn, wpR] using h
  | cons o r ih =>
    intro k a w hd h
    have ho : all.toArray[k]? = some o := by
      have := congrArg (·[0]?) hd
      simpa using this
    have hd' : all.drop (k + 1) = r := by
      rw [← List.drop_drop, hd]; rfl
    have hl : (List.range (o :: r).length).map (k + ·) = k :: (List.range r.length).map (k + 1 + ·) := by
      simp only [List.length_cons, List.range_succ_eq_map, List.map_cons, List.map_map, Nat.add_zero, List.cons.injEq, true_and]
      apply List.map_congr_left
      intro x _
      simp only [Function.comp]; omega
    rw [hl]
    simp only [wpOpsIn, ho]
    simp only [wpR] at h
    split at h
    · rename_i hw
      rw [if_pos hw]
      exact Oper.wpIn_mono (fun a w => ih (k + 1) a w hd') h
    · rename_i hw
      rw [if_neg hw]
      exact ⟨h.1, ih (k + 1) _ w hd' h.2⟩

def gv (n : Nat) (f : Fr) (all : List Oper) (j : Nat) : Option Bool :=
  match (all[j]?).bind (·.dst) with
  | none => none
  | some d => match (bif Nat.blt d n then f d else undef) with
    | .bool b => some b
    | _ => none
def gok (n : Nat) (f : Fr) (all : List Oper) (o : Oper) : Bool :=
  match o.guard with
  | none => true
  | some (j, want) => match gv n f all j with
    | some b => b == want
    | none => false
theorem gv_eq (n : Nat) (ds : List Deferred) (f : Fr) (all : List Oper) (j : Nat) : yielded all.toArray (ofD n ds f).tmps j = gv n f all j := by
  simp only [yielded, gv, List.getElem?_toArray]
  cases (all[j]?).bind (·.dst) with
  | none => rfl
  | some d =>
    simp only [Option.bind_some, ofD_get?]
    cases Nat.blt d n
    · rfl
    · simp only [cond_true]
      cases f d <;> rfl
theorem gok_eq (n : Nat) (ds : List Deferred) (f : Fr) (all : List Oper) (o : Oper) : Region.wanted o (yielded all.toArray (ofD n ds f).tmps) = gok n f all o := by
  unfold Region.wanted gok
  cases o.guard with
  | none => rfl
  | some p =>
    obtain ⟨j, want⟩ := p
    simp only [gv_eq]
    cases gv n f all j with
    | none => rfl
    | some b => rfl

@[irreducible] def RS (P : Program) (all : List Oper) (n : Nat) (r : List Oper) (f : Fr) (i : Imm) (L : SH) (K : Fr → Imm → SH → Prop) : Prop :=
  ∀ F, Wd F → ∀ ds w, St i L w → ∀ Q : Exit → Act → World → Prop, (∀ f' i' L' w', i.le i' → St i' L' w' → K f' i' L' → Q .normal (ofD n ds f') w') → wpR F P all.toArray Q r (ofD n ds f) w

section
variable {P : Program} {all : List Oper} {n : Nat} {r : List Oper} {o : Oper} {f : Fr} {i : Imm} {L : SH} {K : Fr → Imm → SH → Prop}
theorem RS.nil (h : K f i L) : RS P all n [] f i L K := by
  unfold RS
  intro F _ ds w hw Q hQ
  exact hQ f i L w (Imm.le.refl i) hw h
theorem RS.step (hg : gok n f all o = true) (h : OpS P n o f i L fun v i' L' => RS P all n r (updO f o.dst v) i' L' K) : RS P all n (o :: r) f i L K := by
  unfold RS
  intro F hF ds w hw Q hQ
  simp only [wpR]
  rw [if_pos (by rw [gok_eq]; exact hg)]
  refine h.use hF ds w hw _ _ fun v i' L' w' hi hs k => ?_
  unfold RS at k
  exact k F hF ds w' hs Q fun f' i'' L'' w'' hi' hs' k' => hQ f' i'' L'' w'' (hi.trans hi') hs' k'
theorem RS.skip (hg : gok n f all o = false) (h : RS P all n r (updO f o.dst undef) i L K) : RS P all n (o :: r) f i L K := by
  unfold RS at *
  intro F hF ds w hw Q hQ
  simp only [wpR]
  rw [if_neg (by rw [gok_eq, hg]; decide), ofD_put]
  exact ⟨fun f' _ => hF.fn f', h F hF ds w hw Q hQ⟩
theorem RS.state (h : ∀ w, St i L w → ∃ i' L', i.le i' ∧ St i' L' w ∧ RS P all n r f i' L' K) : RS P all n r f i L K := by
  unfold RS
  intro F hF ds w hw Q hQ
  obtain ⟨i', L', hi, hs, k⟩ := h w hw
  unfold RS at k
  exact k F hF ds w hs Q fun f' i'' L'' w'' hi' hs' k' => hQ f' i'' L'' w'' (hi.trans hi') hs' k'
end

/-! ### code -/
inductive Ex where
  | normal
  | exit (id : Nat)
  | ret
def Ex.to : Ex → Exit
  | .normal => .normal
  | .exit id => .exit id
  | .ret => .ret

@[irreducible] def CS (P : Program) (n : Nat) (c : Code) (f : Fr) (i : Imm) (L : SH) (Q : Ex → Fr → Imm → SH → Prop) : Prop :=
  ∀ F, Wd F → ∀ ds w, St i L w → ∀ Q' : Exit → Act → World → Prop, (∀ e f' i' L' w', i.le i' → St i' L' w' → Q e f' i' L' → Q' e.to (ofD n ds f') w') → c.wpIn F 0 P Q' (ofD n ds f) w

@[irreducible] def thenQ (next : Fr → Imm → SH → Prop) (Q : Ex → Fr → Imm → SH → Prop) : Ex → Fr → Imm → SH → Prop
  | .normal, f, i, L => next f i L
  | e, f, i, L => Q e f i L
@[irreducible] def blkQ (id : Nat) (next : Fr → Imm → SH → Prop) (Q : Ex → Fr → Imm → SH → Prop) : Ex → Fr → Imm → SH → Prop
  | .normal, f, i, L => next f i L
  | .exit j, f, i, L => if j = id then next f i L else Q (.exit j) f i L
  | .ret, f, i, L => Q .ret f i L
@[irreducible] def retQ (K : Fr → Imm → SH → Prop) : Ex → Fr → Imm → SH → Prop
  | .exit _, _, _, _ => False
  | _, f, i, L => K f i L

section
variable {P : Program} {n : Nat} {c x y z : Code} {f : Fr} {i : Imm} {L : SH} {Q : Ex → Fr → Imm → SH → Prop} {next : Fr → Imm → SH → Prop} {K : Fr → Imm → SH → Prop}

theorem thenQ.normal (h : next f i L) : thenQ next Q .normal f i L := by unfold thenQ; exact h
theorem thenQ.ret (h : Q .ret f i L) : thenQ next Q .ret f i L := by unfold thenQ; exact h
theorem thenQ.exit {j : Nat} (h : Q (.exit j) f i L) : thenQ next Q (.exit j) f i L := by unfold thenQ; exact h
theorem blkQ.normal {id : Nat} (h : next f i L) : blkQ id next Q .normal f i L := by unfold blkQ; exact h
theorem blkQ.ret {id : Nat} (h : Q .ret f i L) : blkQ id next Q .ret f i L := by unfold blkQ; exact h
theorem blkQ.here {id : Nat} (h : next f i L) : blkQ id next Q (.exit id) f i L := by unfold blkQ; simp only [if_true]; exact h
theorem blkQ.past {id j : Nat} (hne : Nat.beq j id = false) (h : Q (.exit j) f i L) : blkQ id next Q (.exit j) f i L := by
  unfold blkQ
  have : j ≠ id := fun e => by simp [e] at hne
  simp only [if_neg this]; exact h
theorem retQ.ret (h : K f i L) : retQ K .ret f i L := by unfold retQ; exact h
theorem retQ.normal (h : K f i L) : retQ K .normal f i L := by unfold retQ; exact h

theorem CS.mono {Q' : Ex → Fr → Imm → SH → Prop} (h : CS P n c f i L Q) (hq : ∀ e f' i' L', i.le i' → Q e f' i' L' → Q' e f' i' L') : CS P n c f i L Q' := by
  unfold CS at *
  intro F hF ds w hw R hR
  exact h F hF ds w hw R fun e f' i' L' w' hi hs q => hR e f' i' L' w' hi hs (hq e f' i' L' hi q)
theorem CS.skip (h : Q .normal f i L) : CS P n .skip f i L Q := by
  unfold CS; intro F hF ds w hw R hR
  exact wpIn_skip (hR .normal f i L w (Imm.le.refl i) hw h)
theorem CS.ret (h : Q .ret f i L) : CS P n .ret f i L Q := by
  unfold CS; intro F hF ds w hw R hR
  exact wpIn_ret (hR .ret f i L w (Imm.le.refl i) hw h)
theorem CS.exit {id : Nat} (h : Q (.exit id) f i L) : CS P n (.exit id) f i L Q := by
  unfold CS; intro F hF ds w hw R hR
  exact wpIn_exit (hR (.exit id) f i L w (Imm.le.refl i) hw h)
theorem CS.use (h : CS P n c f i L Q) {F : Fence} (hF : Wd F) (ds : List Deferred) (w : World) (hw : St i L w) (R : Exit → Act → World → Prop) (hR : ∀ e f' i' L' w', i.le i' → St i' L' w' → Q e f' i' L' → R e.to (ofD n ds f') w') : c.wpIn F 0 P R (ofD n ds f) w := by
  unfold CS at h; exact h F hF ds w hw R hR
theorem CS.seq (h : CS P n x f i L (thenQ (fun f' i' L' => CS P n y f' i' L' Q) Q)) : CS P n (.seq x y) f i L Q := by
  unfold CS
  intro F hF ds w hw R hR
  refine wpIn_seq (h.use hF ds w hw _ fun e f' i' L' w' hi hs q => ?_)
  unfold thenQ at q
  cases e with
  | normal =>
    simp only [Ex.to, Exit.then]
    simp only at q
    exact q.use hF ds w' hs R fun e f'' i'' L'' w'' hi' hs' q' => hR e f'' i'' L'' w'' (hi.trans hi') hs' q'
  | exit id => exact hR (.exit id) f' i' L' w' hi hs q
  | ret => exact hR .ret f' i' L' w' hi hs q
theorem CS.cond_true {cnd : Operand} (hc : ev n f cnd = .bool true) (h : CS P n x f i L Q) : CS P n (.cond cnd x y) f i L Q := by
  unfold CS at *
  intro F hF ds w hw R hR
  exact wpIn_cond_true (by rw [ofD_eval]; exact hc) (h F hF ds w hw R hR)
theorem CS.cond_false {cnd : Operand} (hc : ev n f cnd = .bool false) (h : CS P n y f i L Q) : CS P n (.cond cnd x y) f i L Q := by
  unfold CS at *
  intro F hF ds w hw R hR
  exact wpIn_cond_false (by rw [ofD_eval]; exact hc) (h F hF ds w hw R hR)
theorem CS.block {id : Nat} (h : CS P n x f i L (blkQ id (fun f' i' L' => Q .normal f' i' L') Q)) : CS P n (.block id x) f i L Q := by
  unfold CS
  intro F hF ds w hw R hR
  refine wpIn_block (h.use hF ds w hw _ fun e f' i' L' w' hi hs q => ?_)
  unfold blkQ at q
  cases e with
  | normal => exact hR .normal f' i' L' w' hi hs q
  | ret => exact hR .ret f' i' L' w' hi hs q
  | exit j =>
    simp only [Ex.to, Exit.inBlock]
    simp only at q
    split at q
    · rename_i e; rw [if_pos e]; exact hR .normal f' i' L' w' hi hs q
    · rename_i e; rw [if_neg e]; exact hR (.exit j) f' i' L' w' hi hs q
theorem CS.region {id : Nat} {ops : List Oper} (h : RS P ops n ops f i L fun f' i' L' => Q .normal f' i' L') : CS P n (.region id ops.toArray false) f i L Q := by
  unfold CS
  unfold RS at h
  intro F hF ds w hw R hR
  refine wpIn_region ?_
  have := wpOps_of_wpR ops ops 0 (ofD n ds f) w rfl (h F hF ds w hw R fun f' i' L' w' hi hs k => hR .normal f' i' L' w' hi hs k)
  simpa using this
/-- a loop: 'slots' are all that the body and what follows read; 'I' holds of their values at every round's head, 'm' rounds at most to come -/
def updL (g : Fr) : List Nat → List Value → Fr
  | t :: ts, v :: vs => upd (updL g ts vs) t v
  | _, _ => g
theorem updL_map (f : Fr) (slots : List Nat) : updL f slots (slots.map f) = f := by
  induction slots with
  | nil => rfl
  | cons t ts ih =>
    simp only [List.map_cons, updL, ih]
    funext j
    by_cases h : j = t
    · subst h; rw [upd_same]
    · rw [upd_ne _ _ h]
theorem wpIn_loop_ghost {F : Fence} {P : Program} {Q : Exit → Act → World → Prop} {a : Act} {w : World} {c : Code} (I : Nat → Act → World → Prop) (n₀ : Nat) (h₀ : I n₀ a w)
    (round : ∀ n a w, I n a w → c.wpIn F 0 P (Exit.then (fun a' w' => ∃ n', n' < n ∧ I n' a' w') Q) a w) : (Code.loop c).wpIn F 0 P Q a w := by
  refine wpIn_loop (fun a w => ∃ n, I n a w) (fun a w => leastOf (fun n => I n a w)) ⟨n₀, h₀⟩ ?_
  intro a w hI
  refine wpIn_mono (round _ a w (leastOf_spec hI).1) ?_
  intro e a' w' hq
  cases e with
  | normal =>
    obtain ⟨n', hlt, hI'⟩ := hq
    exact show (∃ n, I n a' w') ∧ leastOf (fun n => I n a' w') < leastOf (fun n => I n a w) from ⟨⟨n', hI'⟩, Nat.lt_of_le_of_lt ((leastOf_spec ⟨n', hI'⟩).2 n' hI') hlt⟩
  | exit id => exact hq
  | goto l => exact hq
  | ret => exact hq
  | panic ch => exact hq
  | outgrown => exact hq
theorem CS.loop (slots : List Nat) (I : Nat → List Value → Imm → SH → Prop) (m0 : Nat) (h0 : I m0 (slots.map f) i L)
    (round : ∀ m g vs i' L', i.le i' → I m vs i' L' → CS P n c (updL g slots vs) i' L' (thenQ (fun f'' i'' L'' => ∃ m', m' < m ∧ I m' (slots.map f'') i'' L'') Q)) : CS P n (.loop c) f i L Q := by
  unfold CS
  intro F hF ds w hw R hR
  refine wpIn_loop_ghost (fun m a w => ∃ f' i' L', a = ofD n ds f' ∧ i.le i' ∧ St i' L' w ∧ I m (slots.map f') i' L') m0 ⟨f, i, L, rfl, Imm.le.refl i, hw, h0⟩ ?_
  rintro m a w1 ⟨f', i', L', rfl, hi, hs, hI⟩
  have := round m f' _ i' L' hi hI
  rw [updL_map] at this
  refine this.use hF ds w1 hs _ fun e f'' i'' L'' w'' hi' hs' q => ?_
  unfold thenQ at q
  cases e with
  | normal =>
    obtain ⟨m', hm, hI'⟩ := q
    exact ⟨m', hm, f'', i'', L'', rfl, hi.trans hi', hs', hI'⟩
  | exit id => exact hR (.exit id) f'' i'' L'' w'' (hi.trans hi') hs' q
  | ret => exact hR .ret f'' i'' L'' w'' (hi.trans hi') hs' q
theorem CS.state (h : ∀ w, St i L w → ∃ i' L', i.le i' ∧ St i' L' w ∧ CS P n c f i' L' Q) : CS P n c f i L Q := by
  unfold CS
  intro F hF ds w hw R hR
  obtain ⟨i', L', hi, hs, k⟩ := h w hw
  exact k.use hF ds w hs R fun e f' i'' L'' w'' hi' hs' q => hR e f' i'' L'' w'' (hi.trans hi') hs' q
end

/-! ### a function's contract out of its body -/
theorem FnS.body {P : Program} {g : FuncId} {fn : Func} {c : Code} {args : List Value} {i : Imm} {L : SH} {Post : Value → Imm → SH → Prop} {n : Nat}
    (hf : P.funcs[g]? = some fn) (hb : fn.body = some c) (hn : fn.ntmps = n) (hl : args.length ≤ n) (K : Fr → Imm → SH → Prop)
    (hr : ∀ f i' L' w, St i' L' w → K f i' L' → ∃ v, (results fn (ofF n f).tmps).run P w = .ok v w ∧ Post v i' L')
    (h : CS P n c (argF 0 args) i L (retQ K)) : FnS P g args i L Post := by
  intro w hw
  refine calls_of_wp hf hb ?_
  rw [hn, argF_act n args hl]
  refine (wpIn_wide (n := 0)).1 ?_
  refine h.use (.inl rfl) [] w hw _ fun e f' i' L' w' hi hs q => ?_
  unfold retQ at q
  cases e with
  | normal => obtain ⟨v, hv, hp⟩ := hr f' i' L' w' hs q; exact ⟨rfl, v, hv, v, i', L', rfl, hi, hs, hp⟩
  | ret => obtain ⟨v, hv, hp⟩ := hr f' i' L' w' hs q; exact ⟨rfl, v, hv, v, i', L', rfl, hi, hs, hp⟩
  | exit id => exact q.elim

theorem evt (n : Nat) (f : Fr) (t : Nat) : (ofF n f).tmps[t]?.getD undef = ev n f (.tmp t) := by rw [← Array.getD_eq_getD_getElem?]; exact ofD_getD n [] f t

theorem FnS.intro1 {P : Program} {g : FuncId} {fn : Func} {c : Code} {args : List Value} {i : Imm} {L : SH} {Post : Value → Imm → SH → Prop} {n r : Nat}
    (hf : P.funcs[g]? = some fn) (hb : fn.body = some c) (hn : fn.ntmps = n) (hl : args.length ≤ n) (hres : fn.results = #[.tmp r])
    (h : CS P n c (argF 0 args) i L (retQ fun f i' L' => Post (ev n f (.tmp r)) i' L')) : FnS P g args i L Post :=
  FnS.body hf hb hn hl _ (fun f i' L' w _ k => ⟨_, by simp only [results, hres]; simp [evt], k⟩) h
theorem FnS.intro0 {P : Program} {g : FuncId} {fn : Func} {c : Code} {args : List Value} {i : Imm} {L : SH} {Post : Value → Imm → SH → Prop} {n : Nat}
    (hf : P.funcs[g]? = some fn) (hb : fn.body = some c) (hn : fn.ntmps = n) (hl : args.length ≤ n) (hres : fn.results = #[])
    (h : CS P n c (argF 0 args) i L (retQ fun _ i' L' => Post (.tuple #[]) i' L')) : FnS P g args i L Post :=
  FnS.body hf hb hn hl _ (fun f i' L' w _ k => ⟨_, by simp only [results, hres]; simp, k⟩) h
theorem FnS.intro2 {P : Program} {g : FuncId} {fn : Func} {c : Code} {args : List Value} {i : Imm} {L : SH} {Post : Value → Imm → SH → Prop} {n r s : Nat}
    (hf : P.funcs[g]? = some fn) (hb : fn.body = some c) (hn : fn.ntmps = n) (hl : args.length ≤ n) (hres : fn.results = #[.tmp r, .tmp s])
    (h : CS P n c (argF 0 args) i L (retQ fun f i' L' => Post (.tuple #[ev n f (.tmp r), ev n f (.tmp s)]) i' L')) : FnS P g args i L Post :=
  FnS.body hf hb hn hl _ (fun f i' L' w _ k => ⟨_, by simp only [results, hres]; simp [evt], k⟩) h
end Go.Eng
