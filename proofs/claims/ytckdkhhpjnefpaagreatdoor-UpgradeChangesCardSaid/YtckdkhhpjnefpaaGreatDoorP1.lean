/- What the proof leans on, part 1. No condition. -/
import Derived.Orders
import Derived.WalkKit
import Derived.Deep.LoopGhost
import Derived.OrdersIn
import Derived.StillTail
import Derived.Deep.Quiet
import Derived.Laws.MakeOwn
import Derived.MapKept
import Derived.WideShapes
import Derived.Laws.StructEq
import Derived.RangeFuncLeaves
import Derived.RangeFuncSeq
import Derived.Maps.RangeRun
set_option linter.unusedVariables false
set_option linter.unusedSimpArgs false
namespace Go.Eng
open Go
abbrev Fr := Nat → Value
def upd (f : Fr) (d : Nat) (v : Value) : Fr := fun i => bif Nat.beq i d then v else f i
def updO (f : Fr) : Option Nat → Value → Fr
 | some d, v => upd f d v
 | none, _ => f
def uF : Fr := fun _ => undef
def argF : Nat → List Value → Fr
 | _, [] => uF
 | k, a :: l => upd (argF (k + 1) l) k a
def ofD (n : Nat) (ds : List Deferred) (f : Fr) : Act := ⟨Array.ofFn (n := n) fun i => f i.val, ds⟩
abbrev ofF (n : Nat) (f : Fr) : Act := ofD n [] f
def ev (n : Nat) (f : Fr) : Operand → Value
 | .tmp t => bif Nat.blt t n then f t else undef
 | .const v => v
 | .global g => .pointer (some ⟨g, 0, none⟩)
 | .func g => .func (.func g) #[] #[]
theorem ofD_getD (n : Nat) (ds : List Deferred) (f : Fr) (t : Nat) : (ofD n ds f).tmps.getD t undef = bif Nat.blt t n then f t else undef := by
 simp only [ofD, Array.getD_eq_getD_getElem?, Array.getElem?_ofFn]
 by_cases h : t < n
 · have : Nat.blt t n = true := by simp [Nat.blt_eq, h]
   simp [h, this]
 · have : Nat.blt t n = false := by
    cases hb : Nat.blt t n
    · rfl
    · exact absurd (by simpa [Nat.blt_eq] using hb) h
   simp [h, this]
theorem ofD_get? (n : Nat) (ds : List Deferred) (f : Fr) (t : Nat) : (ofD n ds f).tmps[t]? = bif Nat.blt t n then some (f t) else none := by
 simp only [ofD, Array.getElem?_ofFn]
 by_cases h : t < n
 · have : Nat.blt t n = true := by simp [Nat.blt_eq, h]
   simp [h, this]
 · have : Nat.blt t n = false := by
    cases hb : Nat.blt t n
    · rfl
    · exact absurd (by simpa [Nat.blt_eq] using hb) h
   simp [h, this]
theorem ofD_eval (n : Nat) (ds : List Deferred) (f : Fr) : (ofD n ds f).eval = ev n f := by
 funext x
 cases x with
 | tmp t => exact ofD_getD n ds f t
 | _ => rfl
theorem upd_same (f : Fr) (d : Nat) (v : Value) : upd f d v d = v := by simp [upd]
theorem upd_ne (f : Fr) {d i : Nat} (v : Value) (h : i ≠ d) : upd f d v i = f i := by
 have : Nat.beq i d = false := by
  cases hb : Nat.beq i d
  · rfl
  · exact absurd (Nat.eq_of_beq_eq_true hb) h
 simp [upd, this]
theorem ofD_put (n : Nat) (ds : List Deferred) (f : Fr) (o : Option Nat) (v : Value) : (ofD n ds f).put o v = ofD n ds (updO f o v) := by
 cases o with
 | none => rfl
 | some d =>
   simp only [Act.put, ofD, updO, Act.mk.injEq, and_true]
   apply Array.ext_getElem?
   intro i
   rw [Array.getElem?_setIfInBounds]
   by_cases hd : d = i
   · subst hd
     by_cases h : d < n
     · simp [h, upd_same]
     · simp [h]
   · rw [if_neg hd]
     by_cases h : i < n
     · simp [h, upd_ne f v (Ne.symm hd)]
     · simp [h]
theorem argF_act (n : Nat) (l : List Value) (h : l.length ≤ n) :
 ({ tmps := l.toArray ++ Array.replicate (n - l.toArray.size) undef, defers := [] } : Act) = ofF n (argF 0 l) := by
 have key : ∀ (l : List Value) (k i : Nat), argF k l i = if k ≤ i ∧ i < k + l.length then (l[i - k]?).getD undef else undef := by
  intro l
  induction l with
  | nil => intro k i; simp [argF, uF];
  | cons a l ih =>
    intro k i
    simp only [argF, List.length_cons]
    by_cases hik : i = k
    · subst hik; simp [upd_same]
    · rw [upd_ne _ _ hik, ih]
      by_cases hc : k + 1 ≤ i ∧ i < k + 1 + l.length
      · rw [if_pos hc, if_pos (by omega)]
        have : i - k = (i - (k + 1)) + 1 := by omega
        rw [this]; simp
      · rw [if_neg hc, if_neg (by omega)]
 simp only [ofF, ofD, Act.mk.injEq, and_true]
 apply Array.ext_getElem?
 intro i
 rw [Array.getElem?_append, Array.getElem?_ofFn, Array.getElem?_replicate]
 simp only [List.size_toArray, List.getElem?_toArray, key]
 by_cases hi : i < l.length
 · have hn : i < n := by omega
   simp [hi, hn]
 · by_cases hn : i < n
   · have : i - l.length < n - l.length := by omega
     simp [hi, hn, this]
   · have : ¬ (i - l.length < n - l.length) := by omega
     simp [hi, hn, this]
structure Imm where
 blk : Nat → Option Obj
 os : Os
 tape : Nat → Question → Nat
 output : Array (Nat × ByteArray)
structure Imm.le (i j : Imm) : Prop where
 os : j.os = i.os
 tape : j.tape = i.tape
 output : j.output = i.output
 blk : ∀ b o, i.blk b = some o → j.blk b = some o
theorem Imm.le.refl (i : Imm) : i.le i := ⟨rfl, rfl, rfl, fun _ _ h => h⟩
theorem Imm.le.trans {i j k : Imm} (h : i.le j) (h' : j.le k) : i.le k :=
 ⟨h'.os.trans h.os, h'.tape.trans h.tape, h'.output.trans h.output, fun b o hb => h'.blk b o (h.blk b o hb)⟩
abbrev SH := List (Nat × Obj)
structure St (i : Imm) (L : SH) (w : World) : Prop where
 os : w.os = i.os
 tape : w.tape = i.tape
 output : w.output = i.output
 imm : ∀ b o, i.blk b = some o → w.heap[b]? = some o
 nodup : (L.map Prod.fst).Nodup
 own : ∀ p ∈ L, w.heap[p.1]? = some p.2
 sep : ∀ p ∈ L, i.blk p.1 = none
theorem St.drew {i : Imm} {L : SH} {w : World} (h : St i L w) : St i L { w with drawn := w.drawn + 1 } :=
 ⟨h.os, h.tape, h.output, h.imm, h.nodup, h.own, h.sep⟩
theorem St.perm {i : Imm} {L L' : SH} {w : World} (h : St i L w) (hp : L.Perm L') : St i L' w :=
 ⟨h.os, h.tape, h.output, h.imm, (hp.map Prod.fst).nodup_iff.1 h.nodup, fun p m => h.own p (hp.mem_iff.2 m), fun p m => h.sep p (hp.mem_iff.2 m)⟩
def Imm.add (i : Imm) (b : Nat) (o : Obj) : Imm := { i with blk := fun c => if c = b then some o else i.blk c }
theorem St.freeze {i : Imm} {L : SH} {w : World} {b : Nat} {o : Obj} (h : St i ((b, o) :: L) w) : i.le (i.add b o) ∧ St (i.add b o) L w := by
 have hn := h.nodup
 simp only [List.map_cons, List.nodup_cons] at hn
 refine ⟨⟨rfl, rfl, rfl, fun c o' hc => ?_⟩, ⟨h.os, h.tape, h.output, fun c o' hc => ?_, hn.2, fun p m => h.own p (List.mem_cons_of_mem _ m), fun p m => ?_⟩⟩
 · have : c ≠ b := by
    rintro rfl
    have := h.sep (c, o) (List.mem_cons_self ..)
    simp [this] at hc
   simp [Imm.add, this, hc]
 · simp only [Imm.add] at hc
   split at hc
   · rename_i e; subst e; cases hc; exact h.own (c, o) (List.mem_cons_self ..)
   · exact h.imm c o' hc
 · have hne : p.1 ≠ b := by
    rintro rfl
    exact hn.1 (List.mem_map.2 ⟨p, m, rfl⟩)
   simp [Imm.add, hne, h.sep p (List.mem_cons_of_mem _ m)]
theorem St.drop {i : Imm} {L : SH} {w : World} {p : Nat × Obj} (h : St i (p :: L) w) : St i L w :=
 ⟨h.os, h.tape, h.output, h.imm, (List.nodup_cons.1 (by simpa using h.nodup)).2, fun q m => h.own q (List.mem_cons_of_mem _ m), fun q m => h.sep q (List.mem_cons_of_mem _ m)⟩
theorem St.dropL {i : Imm} {L M : SH} {w : World} (h : St i (M ++ L) w) : St i L w := by
 induction M with
 | nil => exact h
 | cons p M ih => exact ih h.drop
def Wd (F : Fence) : Prop := F = Fence.wide ∨ ∃ l, F = Fence.wide.inRound l
theorem Wd.fn {F : Fence} (h : Wd F) (f : FuncId) : F.fn f := by
 rcases h with rfl | ⟨l, rfl⟩ <;> exact trivial
theorem Wd.depth {F : Fence} (h : Wd F) {p : Prop} : F.depth.isSome = true → p := by
 rcases h with rfl | ⟨l, rfl⟩ <;> exact fun h => by cases h
theorem Wd.calls {F : Fence} (h : Wd F) {n : Nat} {P : Program} {f : FuncId} {args : Array Value} {w : World} {R : Ending → World → Prop} (k : Calls P f args w R) : CallsIn F n P f args w R := by
 rcases h with rfl | ⟨l, rfl⟩
 · exact callsIn_wide.2 k
 · exact (callsIn_wide (n := n)).2 k
theorem Wd.round {F : Fence} (h : Wd F) {n : Nat} {P : Program} {l : Nat} {f : FuncId} {tmps : Array Value} {assign body : Code} {w : World} {R : Ending → World → Prop} (k : RoundIn Fence.wide n P l f tmps assign body w R) : RoundIn F n P l f tmps assign body w R := by
 rcases h with rfl | ⟨l, rfl⟩
 · exact k
 · exact k
def ResV (P : Program) (K : Value → World → Prop) : Result Next → Prop
 | .ok (.value v) w => K v w
 | .ok .skip w => K undef w
 | .ok (.enter g args) w => Calls P g args w fun e w' => ∃ v, e = .returned v ∧ K v w'
 | .ok (.round l f tmps assign body) w => RoundIn Fence.wide 0 P l f tmps assign body w fun e w' => ∃ v, e = .returned v ∧ K v w'
 | _ => False
theorem ResV.mono {P : Program} {K K' : Value → World → Prop} {r : Result Next} (h : ResV P K r) (hk : ∀ v w, K v w → K' v w) : ResV P K' r := by
 unfold ResV at *
 split at h
 · exact hk _ _ h
 · exact hk _ _ h
 · exact h.mono fun _ _ ⟨v, he, k⟩ => ⟨v, he, hk _ _ k⟩
 · exact RoundIn.mono h fun _ _ ⟨v, he, k⟩ => ⟨v, he, hk _ _ k⟩
 · exact h.elim
@[irreducible] def OpS (P : Program) (n : Nat) (o : Oper) (f : Fr) (i : Imm) (L : SH) (K : Value → Imm → SH → Prop) : Prop :=
 ∀ w, St i L w → ResV P (fun v w' => ∃ i' L', i.le i' ∧ St i' L' w' ∧ K v i' L') ((execOp (ev n f) o).run P w)
theorem semAt_of {F : Fence} {P : Program} {n : Nat} {ds : List Deferred} {o : Oper} {f : Fr} {w : World} {K : Value → World → Prop} (h : ResV P K ((execOp (ev n f) o).run P w)) : (o.semAt F.round (ofD n ds f).eval) = execOp (ev n f) o := by
 rw [ofD_eval]
 refine Oper.semAt_eq F.round (ev n f) o fun c hc => ?_
 obtain ⟨dst, op, ty, pos, aft, gd⟩ := o
 simp only at hc
 subst hc
 simp only [execOp, Sem.run_bind] at h
 cases hr : (resolve (ev n f) c ty).run P w with
 | ok x w' => rw [hr] at h; simp only [Result.andThen, Sem.run_pure] at h; exact h
 | halt x w' => rw [hr] at h; exact h
theorem OpS.use {P : Program} {n : Nat} {o : Oper} {f : Fr} {i : Imm} {L : SH} {K : Value → Imm → SH → Prop} (h : OpS P n o f i L K) {F : Fence} (hF : Wd F) (ds : List Deferred) (w : World) (hw : St i L w) (next : Act → World → Prop) (Q : Exit → Act → World → Prop)
 (hn : ∀ v i' L' w', i.le i' → St i' L' w' → K v i' L' → next (ofD n ds (updO f o.dst v)) w') : o.wpIn F 0 P (ofD n ds f) w next Q := by
 unfold OpS at h
 have := h w hw
 unfold Oper.wpIn
 refine ⟨fun f' _ => hF.fn f', ?_⟩
 rw [semAt_of this]
 unfold ResV at this
 split at this
 · rename_i v w' hr
   rw [hr]; obtain ⟨i', L', h1, h2, h3⟩ := this
   simp only [Oper.uponIn, ofD_put]; exact hn v i' L' w' h1 h2 h3
 · rename_i w' hr
   rw [hr]; obtain ⟨i', L', h1, h2, h3⟩ := this
   simp only [Oper.uponIn, ofD_put]; exact hn undef i' L' w' h1 h2 h3
 · rename_i g args w' hr
   rw [hr]
   simp only [Oper.uponIn]
   refine ⟨hF.depth, hF.calls ?_⟩
   refine this.mono ?_
   rintro e w'' ⟨v, rfl, i', L', h1, h2, h3⟩
   simp only [ofD_put]; exact hn v i' L' w'' h1 h2 h3
 · rename_i l g tmps assign body w' hr
   rw [hr]
   simp only [Oper.uponIn]
   refine ⟨hF.depth, hF.round ?_⟩
   refine this.mono ?_
   rintro e w'' ⟨v, rfl, i', L', h1, h2, h3⟩
   simp only [ofD_put]; exact hn v i' L' w'' h1 h2 h3
 · exact this.elim
theorem OpS.mono {P : Program} {n : Nat} {o : Oper} {f : Fr} {i : Imm} {L : SH} {K K' : Value → Imm → SH → Prop} (h : OpS P n o f i L K)
 (hk : ∀ v i' L', i.le i' → K v i' L' → K' v i' L') : OpS P n o f i L K' := by
 unfold OpS at *
 exact fun w hw => (h w hw).mono fun v w' ⟨i', L', h1, h2, h3⟩ => ⟨i', L', h1, h2, hk v i' L' h1 h3⟩
theorem OpS.congr {P : Program} {n : Nat} {o : Oper} {f g : Fr} {i : Imm} {L : SH} {K : Value → Imm → SH → Prop} (hs : ∀ cs b, o.op ≠ .select cs b) (he : ∀ x ∈ o.op.operands, ev n f x = ev n g x) (h : OpS P n o f i L K) : OpS P n o g i L K := by
 unfold OpS at *
 rw [execOp_congr o hs he] at h
 exact h
theorem OpS.value {P : Program} {n : Nat} {o : Oper} {f : Fr} {i : Imm} {L : SH} {K : Value → Imm → SH → Prop} {v : Value}
 (h : ∀ w, St i L w → (execOp (ev n f) o).run P w = .ok (.value v) w) (hk : K v i L) : OpS P n o f i L K := by
 unfold OpS
 intro w hw
 rw [h w hw]
 exact ⟨i, L, Imm.le.refl i, hw, hk⟩
theorem OpS.valueW {P : Program} {n : Nat} {o : Oper} {f : Fr} {i : Imm} {L : SH} {K : Value → Imm → SH → Prop}
 (h : ∀ w, St i L w → ∃ v w' i' L', (execOp (ev n f) o).run P w = .ok (.value v) w' ∧ i.le i' ∧ St i' L' w' ∧ K v i' L') : OpS P n o f i L K := by
 unfold OpS
 intro w hw
 obtain ⟨v, w', i', L', hr, hle, hs, hk⟩ := h w hw
 rw [hr]
 exact ⟨i', L', hle, hs, hk⟩
theorem OpS.skipW {P : Program} {n : Nat} {o : Oper} {f : Fr} {i : Imm} {L : SH} {K : Value → Imm → SH → Prop}
 (h : ∀ w, St i L w → ∃ w' i' L', (execOp (ev n f) o).run P w = .ok .skip w' ∧ i.le i' ∧ St i' L' w' ∧ K undef i' L') : OpS P n o f i L K := by
 unfold OpS
 intro w hw
 obtain ⟨w', i', L', hr, hle, hs, hk⟩ := h w hw
 rw [hr]
 exact ⟨i', L', hle, hs, hk⟩
def FnS (P : Program) (g : FuncId) (args : List Value) (i : Imm) (L : SH) (Post : Value → Imm → SH → Prop) : Prop :=
 ∀ w, St i L w → Calls P g args.toArray w fun e w' => ∃ v i' L', e = .returned v ∧ i.le i' ∧ St i' L' w' ∧ Post v i' L'
theorem FnS.mono {P : Program} {g : FuncId} {args : List Value} {i : Imm} {L : SH} {K K' : Value → Imm → SH → Prop} (h : FnS P g args i L K)
 (hk : ∀ v i' L', i.le i' → K v i' L' → K' v i' L') : FnS P g args i L K' :=
 fun w hw => (h w hw).mono fun _ _ ⟨v, i', L', he, hi, hs, k⟩ => ⟨v, i', L', he, hi, hs, hk v i' L' hi k⟩
theorem OpS.enter {P : Program} {n : Nat} {o : Oper} {f : Fr} {i : Imm} {L : SH} {K : Value → Imm → SH → Prop} {g : FuncId} {args : List Value}
 (hx : ∀ w, (execOp (ev n f) o).run P w = .ok (.enter g args.toArray) w) (h : FnS P g args i L K) : OpS P n o f i L K := by
 unfold OpS
 intro w hw
 rw [hx w]
 exact (h w hw).mono fun e w' ⟨v, i', L', he, hi, hs, k⟩ => ⟨v, he, i', L', hi, hs, k⟩
def wpR (F : Fence) (P : Program) (all : Array Oper) (Q : Exit → Act → World → Prop) : List Oper → Act → World → Prop
 | [], a, w => Q .normal a w
 | o :: rest, a, w => if Region.wanted o (yielded all a.tmps) then o.wpIn F 0 P a w (wpR F P all Q rest) Q else (∀ f, o.about P w a.eval = some f → F.fn f) ∧ wpR F P all Q rest (a.put o.dst undef) w
theorem wpOps_of_wpR {F : Fence} {P : Program} {Q : Exit → Act → World → Prop} (all : List Oper) :
 ∀ (r : List Oper) (k : Nat) (a : Act) (w : World), all.drop k = r → wpR F P all.toArray Q r a w → wpOpsIn F 0 P all.toArray Q ((List.range r.length).map (k + ·)) a w := by
 intro r
 induction r with
 | nil => intro k a w _ h; simpa [wpOpsIn, wpR] using h
 | cons o r ih =>
   intro k a w hd h
   have ho : all.toArray[k]? = some o := by
    have := congrArg (·[0]?) hd
    simpa using this
   have hd' : all.drop (k + 1) = r := by
    rw [← List.drop_drop, hd]; rfl
   have hl : (List.range (o :: r).length).map (k + ·) = k :: (List.range r.length).map (k + 1 + ·) := by
    simp only [List.length_cons, List.range_succ_eq_map, List.map_cons, List.map_map, Nat.add_zero, List.cons.injEq, true_and]
    apply List.map_congr_left
    intro x _
    simp only [Function.comp]; omega
   rw [hl]
   simp only [wpOpsIn, ho]
   simp only [wpR] at h
   split at h
   · rename_i hw
     rw [if_pos hw]
     exact Oper.wpIn_mono (fun a w => ih (k + 1) a w hd') h
   · rename_i hw
     rw [if_neg hw]
     exact ⟨h.1, ih (k + 1) _ w hd' h.2⟩
def gv (n : Nat) (f : Fr) (all : List Oper) (j : Nat) : Option Bool :=
 match (all[j]?).bind (·.dst) with
 | none => none
 | some d => match (bif Nat.blt d n then f d else undef) with
   | .bool b => some b
   | _ => none
def gok (n : Nat) (f : Fr) (all : List Oper) (o : Oper) : Bool :=
 match o.guard with
 | none => true
 | some (j, want) => match gv n f all j with
   | some b => b == want
   | none => false
theorem gv_eq (n : Nat) (ds : List Deferred) (f : Fr) (all : List Oper) (j : Nat) : yielded all.toArray (ofD n ds f).tmps j = gv n f all j := by
 simp only [yielded, gv, List.getElem?_toArray]
 cases (all[j]?).bind (·.dst) with
 | none => rfl
 | some d =>
   simp only [Option.bind_some, ofD_get?]
   cases Nat.blt d n
   · rfl
   · simp only [cond_true]
     cases f d <;> rfl
theorem gok_eq (n : Nat) (ds : List Deferred) (f : Fr) (all : List Oper) (o : Oper) : Region.wanted o (yielded all.toArray (ofD n ds f).tmps) = gok n f all o := by
 unfold Region.wanted gok
 cases o.guard with
 | none => rfl
 | some p =>
   obtain ⟨j, want⟩ := p
   simp only [gv_eq]
   cases gv n f all j with
   | none => rfl
   | some b => rfl
@[irreducible] def RS (P : Program) (all : List Oper) (n : Nat) (r : List Oper) (f : Fr) (i : Imm) (L : SH) (K : Fr → Imm → SH → Prop) : Prop :=
 ∀ F, Wd F → ∀ ds w, St i L w → ∀ Q : Exit → Act → World → Prop, (∀ f' i' L' w', i.le i' → St i' L' w' → K f' i' L' → Q .normal (ofD n ds f') w') → wpR F P all.toArray Q r (ofD n ds f) w
section
variable {P : Program} {all : List Oper} {n : Nat} {r : List Oper} {o : Oper} {f : Fr} {i : Imm} {L : SH} {K : Fr → Imm → SH → Prop}
theorem RS.nil (h : K f i L) : RS P all n [] f i L K := by
 unfold RS
 intro F _ ds w hw Q hQ
 exact hQ f i L w (Imm.le.refl i) hw h
theorem RS.step (hg : gok n f all o = true) (h : OpS P n o f i L fun v i' L' => RS P all n r (updO f o.dst v) i' L' K) : RS P all n (o :: r) f i L K := by
 unfold RS
 intro F hF ds w hw Q hQ
 simp only [wpR]
 rw [if_pos (by rw [gok_eq]; exact hg)]
 refine h.use hF ds w hw _ _ fun v i' L' w' hi hs k => ?_
 unfold RS at k
 exact k F hF ds w' hs Q fun f' i'' L'' w'' hi' hs' k' => hQ f' i'' L'' w'' (hi.trans hi') hs' k'
theorem RS.skip (hg : gok n f all o = false) (h : RS P all n r (updO f o.dst undef) i L K) : RS P all n (o :: r) f i L K := by
 unfold RS at *
 intro F hF ds w hw Q hQ
 simp only [wpR]
 rw [if_neg (by rw [gok_eq, hg]; decide), ofD_put]
 exact ⟨fun f' _ => hF.fn f', h F hF ds w hw Q hQ⟩
theorem RS.state (h : ∀ w, St i L w → ∃ i' L', i.le i' ∧ St i' L' w ∧ RS P all n r f i' L' K) : RS P all n r f i L K := by
 unfold RS
 intro F hF ds w hw Q hQ
 obtain ⟨i', L', hi, hs, k⟩ := h w hw
 unfold RS at k
 exact k F hF ds w hs Q fun f' i'' L'' w'' hi' hs' k' => hQ f' i'' L'' w'' (hi.trans hi') hs' k'
end
inductive Ex where
 | normal
 | exit (id : Nat)
 | ret
def Ex.to : Ex → Exit
 | .normal => .normal
 | .exit id => .exit id
 | .ret => .ret
@[irreducible] def CS (P : Program) (n : Nat) (c : Code) (f : Fr) (i : Imm) (L : SH) (Q : Ex → Fr → Imm → SH → Prop) : Prop :=
 ∀ F, Wd F → ∀ ds w, St i L w → ∀ Q' : Exit → Act → World → Prop, (∀ e f' i' L' w', i.le i' → St i' L' w' → Q e f' i' L' → Q' e.to (ofD n ds f') w') → c.wpIn F 0 P Q' (ofD n ds f) w
@[irreducible] def thenQ (next : Fr → Imm → SH → Prop) (Q : Ex → Fr → Imm → SH → Prop) : Ex → Fr → Imm → SH → Prop
 | .normal, f, i, L => next f i L
 | e, f, i, L => Q e f i L
@[irreducible] def blkQ (id : Nat) (next : Fr → Imm → SH → Prop) (Q : Ex → Fr → Imm → SH → Prop) : Ex → Fr → Imm → SH → Prop
 | .normal, f, i, L => next f i L
 | .exit j, f, i, L => if j = id then next f i L else Q (.exit j) f i L
 | .ret, f, i, L => Q .ret f i L
@[irreducible] def retQ (K : Fr → Imm → SH → Prop) : Ex → Fr → Imm → SH → Prop
 | .exit _, _, _, _ => False
 | _, f, i, L => K f i L
section
variable {P : Program} {n : Nat} {c x y z : Code} {f : Fr} {i : Imm} {L : SH} {Q : Ex → Fr → Imm → SH → Prop} {next : Fr → Imm → SH → Prop} {K : Fr → Imm → SH → Prop}
theorem thenQ.normal (h : next f i L) : thenQ next Q .normal f i L := by unfold thenQ; exact h
theorem thenQ.ret (h : Q .ret f i L) : thenQ next Q .ret f i L := by unfold thenQ; exact h
theorem thenQ.exit {j : Nat} (h : Q (.exit j) f i L) : thenQ next Q (.exit j) f i L := by unfold thenQ; exact h
theorem blkQ.normal {id : Nat} (h : next f i L) : blkQ id next Q .normal f i L := by unfold blkQ; exact h
theorem blkQ.ret {id : Nat} (h : Q .ret f i L) : blkQ id next Q .ret f i L := by unfold blkQ; exact h
theorem blkQ.here {id : Nat} (h : next f i L) : blkQ id next Q (.exit id) f i L := by unfold blkQ; simp only [if_true]; exact h
theorem blkQ.past {id j : Nat} (hne : Nat.beq j id = false) (h : Q (.exit j) f i L) : blkQ id next Q (.exit j) f i L := by
 unfold blkQ
 have : j ≠ id := fun e => by simp [e] at hne
 simp only [if_neg this]; exact h
theorem retQ.ret (h : K f i L) : retQ K .ret f i L := by unfold retQ; exact h
theorem CS.mono {Q' : Ex → Fr → Imm → SH → Prop} (h : CS P n c f i L Q) (hq : ∀ e f' i' L', i.le i' → Q e f' i' L' → Q' e f' i' L') : CS P n c f i L Q' := by
 unfold CS at *
 intro F hF ds w hw R hR
 exact h F hF ds w hw R fun e f' i' L' w' hi hs q => hR e f' i' L' w' hi hs (hq e f' i' L' hi q)
theorem CS.skip (h : Q .normal f i L) : CS P n .skip f i L Q := by
 unfold CS; intro F hF ds w hw R hR
 exact wpIn_skip (hR .normal f i L w (Imm.le.refl i) hw h)
theorem CS.ret (h : Q .ret f i L) : CS P n .ret f i L Q := by
 unfold CS; intro F hF ds w hw R hR
 exact wpIn_ret (hR .ret f i L w (Imm.le.refl i) hw h)
theorem CS.exit {id : Nat} (h : Q (.exit id) f i L) : CS P n (.exit id) f i L Q := by
 unfold CS; intro F hF ds w hw R hR
 exact wpIn_exit (hR (.exit id) f i L w (Imm.le.refl i) hw h)
theorem CS.use (h : CS P n c f i L Q) {F : Fence} (hF : Wd F) (ds : List Deferred) (w : World) (hw : St i L w) (R : Exit → Act → World → Prop) (hR : ∀ e f' i' L' w', i.le i' → St i' L' w' → Q e f' i' L' → R e.to (ofD n ds f') w') : c.wpIn F 0 P R (ofD n ds f) w := by
 unfold CS at h; exact h F hF ds w hw R hR
theorem CS.seq (h : CS P n x f i L (thenQ (fun f' i' L' => CS P n y f' i' L' Q) Q)) : CS P n (.seq x y) f i L Q := by
 unfold CS
 intro F hF ds w hw R hR
 refine wpIn_seq (h.use hF ds w hw _ fun e f' i' L' w' hi hs q => ?_)
 unfold thenQ at q
 cases e with
 | normal =>
   simp only [Ex.to, Exit.then]
   simp only at q
   exact q.use hF ds w' hs R fun e f'' i'' L'' w'' hi' hs' q' => hR e f'' i'' L'' w'' (hi.trans hi') hs' q'
 | exit id => exact hR (.exit id) f' i' L' w' hi hs q
 | ret => exact hR .ret f' i' L' w' hi hs q
theorem CS.cond_true {cnd : Operand} (hc : ev n f cnd = .bool true) (h : CS P n x f i L Q) : CS P n (.cond cnd x y) f i L Q := by
 unfold CS at *
 intro F hF ds w hw R hR
 exact wpIn_cond_true (by rw [ofD_eval]; exact hc) (h F hF ds w hw R hR)
theorem CS.cond_false {cnd : Operand} (hc : ev n f cnd = .bool false) (h : CS P n y f i L Q) : CS P n (.cond cnd x y) f i L Q := by
 unfold CS at *
 intro F hF ds w hw R hR
 exact wpIn_cond_false (by rw [ofD_eval]; exact hc) (h F hF ds w hw R hR)
theorem CS.block {id : Nat} (h : CS P n x f i L (blkQ id (fun f' i' L' => Q .normal f' i' L') Q)) : CS P n (.block id x) f i L Q := by
 unfold CS
 intro F hF ds w hw R hR
 refine wpIn_block (h.use hF ds w hw _ fun e f' i' L' w' hi hs q => ?_)
 unfold blkQ at q
 cases e with
 | normal => exact hR .normal f' i' L' w' hi hs q
 | ret => exact hR .ret f' i' L' w' hi hs q
 | exit j =>
   simp only [Ex.to, Exit.inBlock]
   simp only at q
   split at q
   · rename_i e; rw [if_pos e]; exact hR .normal f' i' L' w' hi hs q
   · rename_i e; rw [if_neg e]; exact hR (.exit j) f' i' L' w' hi hs q
theorem CS.region {id : Nat} {ops : List Oper} (h : RS P ops n ops f i L fun f' i' L' => Q .normal f' i' L') : CS P n (.region id ops.toArray false) f i L Q := by
 unfold CS
 unfold RS at h
 intro F hF ds w hw R hR
 refine wpIn_region ?_
 have := wpOps_of_wpR ops ops 0 (ofD n ds f) w rfl (h F hF ds w hw R fun f' i' L' w' hi hs k => hR .normal f' i' L' w' hi hs k)
 simpa using this
def updL (g : Fr) : List Nat → List Value → Fr
 | t :: ts, v :: vs => upd (updL g ts vs) t v
 | _, _ => g
theorem updL_map (f : Fr) (slots : List Nat) : updL f slots (slots.map f) = f := by
 induction slots with
 | nil => rfl
 | cons t ts ih =>
   simp only [List.map_cons, updL, ih]
   funext j
   by_cases h : j = t
   · subst h; rw [upd_same]
   · rw [upd_ne _ _ h]
theorem wpIn_loop_ghost {F : Fence} {P : Program} {Q : Exit → Act → World → Prop} {a : Act} {w : World} {c : Code} (I : Nat → Act → World → Prop) (n₀ : Nat) (h₀ : I n₀ a w)
 (round : ∀ n a w, I n a w → c.wpIn F 0 P (Exit.then (fun a' w' => ∃ n', n' < n ∧ I n' a' w') Q) a w) : (Code.loop c).wpIn F 0 P Q a w := by
 refine wpIn_loop (fun a w => ∃ n, I n a w) (fun a w => leastOf (fun n => I n a w)) ⟨n₀, h₀⟩ ?_
 intro a w hI
 refine wpIn_mono (round _ a w (leastOf_spec hI).1) ?_
 intro e a' w' hq
 cases e with
 | normal =>
   obtain ⟨n', hlt, hI'⟩ := hq
   exact show (∃ n, I n a' w') ∧ leastOf (fun n => I n a' w') < leastOf (fun n => I n a w) from ⟨⟨n', hI'⟩, Nat.lt_of_le_of_lt ((leastOf_spec ⟨n', hI'⟩).2 n' hI') hlt⟩
 | exit id => exact hq
 | goto l => exact hq
 | ret => exact hq
 | panic ch => exact hq
 | outgrown => exact hq
theorem CS.loop (slots : List Nat) (I : Nat → List Value → Imm → SH → Prop) (m0 : Nat) (h0 : I m0 (slots.map f) i L)
 (round : ∀ m g vs i' L', i.le i' → I m vs i' L' → CS P n c (updL g slots vs) i' L' (thenQ (fun f'' i'' L'' => ∃ m', m' < m ∧ I m' (slots.map f'') i'' L'') Q)) : CS P n (.loop c) f i L Q := by
 unfold CS
 intro F hF ds w hw R hR
 refine wpIn_loop_ghost (fun m a w => ∃ f' i' L', a = ofD n ds f' ∧ i.le i' ∧ St i' L' w ∧ I m (slots.map f') i' L') m0 ⟨f, i, L, rfl, Imm.le.refl i, hw, h0⟩ ?_
 rintro m a w1 ⟨f', i', L', rfl, hi, hs, hI⟩
 have := round m f' _ i' L' hi hI
 rw [updL_map] at this
 refine this.use hF ds w1 hs _ fun e f'' i'' L'' w'' hi' hs' q => ?_
 unfold thenQ at q
 cases e with
 | normal =>
   obtain ⟨m', hm, hI'⟩ := q
   exact ⟨m', hm, f'', i'', L'', rfl, hi.trans hi', hs', hI'⟩
 | exit id => exact hR (.exit id) f'' i'' L'' w'' (hi.trans hi') hs' q
 | ret => exact hR .ret f'' i'' L'' w'' (hi.trans hi') hs' q
theorem CS.state (h : ∀ w, St i L w → ∃ i' L', i.le i' ∧ St i' L' w ∧ CS P n c f i' L' Q) : CS P n c f i L Q := by
 unfold CS
 intro F hF ds w hw R hR
 obtain ⟨i', L', hi, hs, k⟩ := h w hw
 exact k.use hF ds w hs R fun e f' i'' L'' w'' hi' hs' q => hR e f' i'' L'' w'' (hi.trans hi') hs' q
end
theorem FnS.body {P : Program} {g : FuncId} {fn : Func} {c : Code} {args : List Value} {i : Imm} {L : SH} {Post : Value → Imm → SH → Prop} {n : Nat}
 (hf : P.funcs[g]? = some fn) (hb : fn.body = some c) (hn : fn.ntmps = n) (hl : args.length ≤ n) (K : Fr → Imm → SH → Prop)
 (hr : ∀ f i' L' w, St i' L' w → K f i' L' → ∃ v, (results fn (ofF n f).tmps).run P w = .ok v w ∧ Post v i' L')
 (h : CS P n c (argF 0 args) i L (retQ K)) : FnS P g args i L Post := by
 intro w hw
 refine calls_of_wp hf hb ?_
 rw [hn, argF_act n args hl]
 refine (wpIn_wide (n := 0)).1 ?_
 refine h.use (.inl rfl) [] w hw _ fun e f' i' L' w' hi hs q => ?_
 unfold retQ at q
 cases e with
 | normal => obtain ⟨v, hv, hp⟩ := hr f' i' L' w' hs q; exact ⟨rfl, v, hv, v, i', L', rfl, hi, hs, hp⟩
 | ret => obtain ⟨v, hv, hp⟩ := hr f' i' L' w' hs q; exact ⟨rfl, v, hv, v, i', L', rfl, hi, hs, hp⟩
 | exit id => exact q.elim
theorem evt (n : Nat) (f : Fr) (t : Nat) : (ofF n f).tmps[t]?.getD undef = ev n f (.tmp t) := by rw [← Array.getD_eq_getD_getElem?]; exact ofD_getD n [] f t
theorem FnS.intro1 {P : Program} {g : FuncId} {fn : Func} {c : Code} {args : List Value} {i : Imm} {L : SH} {Post : Value → Imm → SH → Prop} {n r : Nat}
 (hf : P.funcs[g]? = some fn) (hb : fn.body = some c) (hn : fn.ntmps = n) (hl : args.length ≤ n) (hres : fn.results = #[.tmp r])
 (h : CS P n c (argF 0 args) i L (retQ fun f i' L' => Post (ev n f (.tmp r)) i' L')) : FnS P g args i L Post :=
 FnS.body hf hb hn hl _ (fun f i' L' w _ k => ⟨_, by simp only [results, hres]; simp [evt], k⟩) h
theorem FnS.intro2 {P : Program} {g : FuncId} {fn : Func} {c : Code} {args : List Value} {i : Imm} {L : SH} {Post : Value → Imm → SH → Prop} {n r s : Nat}
 (hf : P.funcs[g]? = some fn) (hb : fn.body = some c) (hn : fn.ntmps = n) (hl : args.length ≤ n) (hres : fn.results = #[.tmp r, .tmp s])
 (h : CS P n c (argF 0 args) i L (retQ fun f i' L' => Post (.tuple #[ev n f (.tmp r), ev n f (.tmp s)]) i' L')) : FnS P g args i L Post :=
 FnS.body hf hb hn hl _ (fun f i' L' w _ k => ⟨_, by simp only [results, hres]; simp [evt], k⟩) h
end Go.Eng
namespace Go.Eng
open Go
structure TyE where
 desc : TypeDesc
 size : Nat
 bytes : Nat
 zero : List Value
def isAggD : TypeDesc → Bool
 | .struct _ => true
 | .array _ _ => true
 | _ => false
def zOf (e : TyE) : Option Value := bif isAggD e.desc then some (.agg e.zero.toArray) else match e.zero with
 | [v] => some v
 | _ => none
structure TyE.ok (P : Program) (t : Nat) (e : TyE) : Prop where
 und : P.underlying t = some e.desc
 zlen : e.zero.length = e.size
 info : ∃ i z, P.info? t = some i ∧ i.size = e.size ∧ i.bytes = e.bytes ∧ i.zero = some z ∧ z.cells = e.zero.toArray
def isBasD : TypeDesc → Bool
 | .int _ => true
 | .string => true
 | .bool => true
 | .pointer _ => true
 | _ => false
def plainName (n : String) : Bool := !(n == "_" || n == "typ_" || n == "Func" || n == "typ" || n == "msg" || n == "Type" || n == "Method" || n == "_interface" || n == "Size_")
def plainD : TypeDesc → Bool
 | .struct fs => fs.toList.all fun f => plainName f.name
 | _ => false
def TyE.zok (P : Program) (t : Nat) (e : TyE) : Prop := (∀ i y, P.info? t = some i → zOf e = some y → i.zero = some y) ∧ (∀ i, P.info? t = some i → isBasD e.desc = true → i.comparable = true) ∧ (plainD e.desc = true → P.stoodInHeld t = false ∧ P.eqGuardType P.depth t = false)
abbrev Tab := List (Nat × TyE)
def Tab.ok (P : Program) (T : Tab) : Prop := ∀ p ∈ T, TyE.ok P p.1 p.2 ∧ TyE.zok P p.1 p.2
def tget : Tab → Nat → Option TyE
 | [], _ => none
 | (s, e) :: T, t => bif Nat.beq t s then some e else tget T t
theorem tget_ok2 {P : Program} {T : Tab} (h : T.ok P) {t : Nat} {e : TyE} (ht : tget T t = some e) : TyE.ok P t e ∧ TyE.zok P t e := by
 induction T with
 | nil => cases ht
 | cons p T ih =>
   obtain ⟨s, e'⟩ := p
   simp only [tget] at ht
   cases hb : Nat.beq t s with
   | true =>
     rw [hb] at ht
     cases ht
     have := Nat.eq_of_beq_eq_true hb
     subst this
     exact h (t, e) (List.mem_cons_self ..)
   | false =>
     rw [hb] at ht
     exact ih (fun p hp => h p (List.mem_cons_of_mem _ hp)) ht
theorem tget_ok {P : Program} {T : Tab} (h : T.ok P) {t : Nat} {e : TyE} (ht : tget T t = some e) : TyE.ok P t e := (tget_ok2 h ht).1
def sv : Value → Option Value
 | .bool b => some (.bool b)
 | .int k n => some (.int k n)
 | .float k b => some (.float k b)
 | .complex k a b => some (.complex k a b)
 | .string s => some (.string s)
 | .pointer a => some (.pointer a)
 | .slice a l c => some (.slice a l c)
 | .map r => some (.map r)
 | .chan r => some (.chan r)
 | .func a b c => some (.func a b c)
 | .nilFunc => some .nilFunc
 | .iface t v => some (.iface t v)
 | .nilIface => some .nilIface
 | .agg cs => some (.agg cs)
 | .tuple vs => some (.tuple vs)
theorem sv_eq (v : Value) : sv v = some v := by cases v <;> rfl
def takeX {α : Type} : Nat → List α → Option (List α)
 | 0, _ => some []
 | k + 1, a :: l => match takeX k l with
   | some r => some (a :: r)
   | none => none
 | _ + 1, [] => none
theorem takeX_eq {α : Type} : ∀ (k : Nat) (l r : List α), takeX k l = some r → l.take k = r ∧ r.length = k
 | 0, l, r, h => by cases h; exact ⟨rfl, rfl⟩
 | k + 1, [], r, h => by cases h
 | k + 1, a :: l, r, h => by
   simp only [takeX] at h
   split at h
   · rename_i r' h'
     cases h
     obtain ⟨e1, e2⟩ := takeX_eq k l r' h'
     exact ⟨by simp [e1], by simp [e2]⟩
   · cases h
def setX {α : Type} : List α → Nat → α → Option (List α)
 | [], _, _ => none
 | _ :: l, 0, v => some (v :: l)
 | a :: l, k + 1, v => match setX l k v with
   | some r => some (a :: r)
   | none => none
theorem setX_eq {α : Type} : ∀ (l : List α) (k : Nat) (v : α) (r : List α), setX l k v = some r → l.set k v = r ∧ k < l.length
 | [], k, v, r, h => by cases h
 | _ :: l, 0, v, r, h => by cases h; exact ⟨rfl, by simp⟩
 | a :: l, k + 1, v, r, h => by
   simp only [setX] at h
   split at h
   · rename_i r' h'
     cases h
     obtain ⟨e1, e2⟩ := setX_eq l k v r' h'
     exact ⟨by simp [e1], by simp; omega⟩
   · cases h
@[irreducible] def PV (P : Program) (n : Nat) (f : Fr) (o : Oper) (v : Value) : Prop := ∀ w, (execOp (ev n f) o).run P w = .ok (.value v) w
@[irreducible] def LV (P : Program) (n : Nat) (f : Fr) (i : Imm) (L : SH) (o : Oper) (v : Value) : Prop := ∀ w, St i L w → (execOp (ev n f) o).run P w = .ok (.value v) w
section
variable {P : Program} {all : List Oper} {n : Nat} {r : List Oper} {f : Fr} {i : Imm} {L : SH} {K : Fr → Imm → SH → Prop} {v : Value}
theorem RS.pv {dst : Option Nat} {op : Op} {ty : TypeId} {pos : String} {aft : Array Edge} {gd : Option (Nat × Bool)} (h : PV P n f ⟨dst, op, ty, pos, aft, gd⟩ v) (hg : gok n f all ⟨dst, op, ty, pos, aft, gd⟩ = true) (k : RS P all n r (updO f dst v) i L K) : RS P all n (⟨dst, op, ty, pos, aft, gd⟩ :: r) f i L K :=
 by unfold PV at h; exact RS.step hg (OpS.value (fun w _ => h w) k)
theorem RS.lv {dst : Option Nat} {op : Op} {ty : TypeId} {pos : String} {aft : Array Edge} {gd : Option (Nat × Bool)} (h : LV P n f i L ⟨dst, op, ty, pos, aft, gd⟩ v) (hg : gok n f all ⟨dst, op, ty, pos, aft, gd⟩ = true) (k : RS P all n r (updO f dst v) i L K) : RS P all n (⟨dst, op, ty, pos, aft, gd⟩ :: r) f i L K :=
 by unfold LV at h; exact RS.step hg (OpS.value h k)
end
section
variable {P : Program} {n : Nat} {f : Fr} {dst : Option Nat} {ty : TypeId} {pos : String} {aft : Array Edge} {gd : Option (Nat × Bool)} {v : Value} {T : Tab}
theorem PV.move {x : Operand} (h : sv (ev n f x) = some v) : PV P n f ⟨dst, .move x, ty, pos, aft, gd⟩ v := by
 unfold PV; intro w; rw [sv_eq] at h; cases h; simp [execOp]
theorem PV.assign {x : Operand} (h : sv (ev n f x) = some v) : PV P n f ⟨dst, .assign x, ty, pos, aft, gd⟩ v := by
 unfold PV; intro w; rw [sv_eq] at h; cases h; simp [execOp]
theorem PV.pickT {c a b : Operand} (hc : ev n f c = .bool true) (h : sv (ev n f a) = some v) : PV P n f ⟨dst, .pick c a b, ty, pos, aft, gd⟩ v := by
 unfold PV; intro w; rw [sv_eq] at h; cases h; simp [execOp, hc, asBool]
theorem PV.pickF {c a b : Operand} (hc : ev n f c = .bool false) (h : sv (ev n f b) = some v) : PV P n f ⟨dst, .pick c a b, ty, pos, aft, gd⟩ v := by
 unfold PV; intro w; rw [sv_eq] at h; cases h; simp [execOp, hc, asBool]
theorem PV.nilCheck {x : Operand} {a : Addr} (hx : ev n f x = .pointer (some a)) : PV P n f ⟨dst, .nilCheck x, ty, pos, aft, gd⟩ (.pointer (some a)) := by
 unfold PV; intro w; simp [execOp, hx]
theorem PV.extract {x : Operand} {ix : Nat} {vs : Array Value} (hx : ev n f x = .tuple vs) (h : vs[ix]? = some v) : PV P n f ⟨dst, .extract x ix, ty, pos, aft, gd⟩ v := by
 unfold PV; intro w; simp [execOp, hx, Instr.extract, h]
def fOff (T : Tab) (s fld : Nat) : Option Nat :=
 match tget T s with
 | some ⟨.struct fs, _, _, _⟩ => match fs[fld]? with
   | some fd => match tget T fd.type with
     | some e => bif Nat.beq e.size 0 then none else some fd.offset
     | none => none
   | none => none
 | _ => none
theorem Addr.add_none (b o k : Nat) : (⟨b, o, none⟩ : Addr).add k = ⟨b, o + k, none⟩ := by
 unfold Addr.add; split
 · rename_i h; subst h; rfl
 · rfl
theorem run_info {t : TypeId} {i : TypeInfo} (h : P.info? t = some i) (w : World) : (typeInfo t).run P w = .ok i w := by
 simp [typeInfo, h]
theorem PV.fieldAddr (hT : T.ok P) {s fld : Nat} {x : Operand} {b o off : Nat} (hx : ev n f x = .pointer (some ⟨b, o, none⟩)) (h : fOff T s fld = some off) :
 PV P n f ⟨dst, .fieldAddr s x fld, ty, pos, aft, gd⟩ (.pointer (some ⟨b, o + off, none⟩)) := by
 unfold PV; intro w
 unfold fOff at h
 split at h
 · rename_i fs _ _ _ he
   split at h
   · rename_i fd hfd
     split at h
     · rename_i e hee
       cases hb : Nat.beq e.size 0 with
       | true => rw [hb] at h; cases h
       | false =>
         rw [hb] at h
         cases h
         have h1 := (tget_ok hT he).und
         obtain ⟨_, _, i, z, hi, hs, _⟩ := tget_ok hT hee
         have hne : e.size ≠ 0 := fun e0 => by rw [e0] at hb; cases hb
         simp [execOp, hx, Instr.fieldAt, run_underlying h1, hfd, Instr.sureAddr, fieldPlace, sizeOf, run_info hi, hs, hne, Addr.add_none]
     · cases h
   · cases h
 · cases h
def fVal (T : Tab) (s fld : Nat) (cs : List Value) : Option Value :=
 match tget T s with
 | some ⟨.struct fs, _, _, _⟩ => match fs[fld]? with
   | some fd => match tget T fd.type with
     | some e => bif isAggD e.desc then (match takeX e.size (cs.drop fd.offset) with | some l => some (.agg l.toArray) | none => none) else (match cs[fd.offset]? with | some v => sv v | none => none)
     | none => none
   | none => none
 | _ => none
theorem run_isAgg {t : TypeId} {d : TypeDesc} (h : P.underlying t = some d) (w : World) : (isAgg t).run P w = .ok (isAggD d) w := by
 cases d <;> simp [isAgg, run_underlying h, isAggD]
theorem PV.field (hT : T.ok P) {s fld : Nat} {x : Operand} {cs : List Value} (hx : ev n f x = .agg cs.toArray) (h : fVal T s fld cs = some v) :
 PV P n f ⟨dst, .field s x fld, ty, pos, aft, gd⟩ v := by
 unfold PV; intro w
 unfold fVal at h
 split at h
 · rename_i fs _ _ _ he
   split at h
   · rename_i fd hfd
     split at h
     · rename_i e hee
       have h1 := (tget_ok hT he).und
       obtain ⟨h2, _, i, z, hi, hs, _⟩ := tget_ok hT hee
       cases hb : isAggD e.desc with
       | true =>
         simp only [hb, cond_true] at h
         split at h
         · rename_i l hl
           cases h
           obtain ⟨e1, e2⟩ := takeX_eq _ _ _ hl
           have : cs.toArray.extract fd.offset (fd.offset + e.size) = l.toArray := by
            rw [← e1]; simp
           simp [execOp, hx, Instr.field, run_underlying h1, hfd, asAgg, part, run_isAgg h2, hb, sizeOf, run_info hi, hs, e1]
         · cases h
       | false =>
         simp only [hb, cond_false] at h
         split at h
         · rename_i u hu
           rw [sv_eq] at h; cases h
           simp [execOp, hx, Instr.field, run_underlying h1, hfd, asAgg, part, run_isAgg h2, hb, hu]
         · cases h
     · cases h
   · cases h
 · cases h
theorem PV.makeFunc {fn : Fn} {a c : Array Operand} : PV P n f ⟨dst, .makeFunc fn a c, ty, pos, aft, gd⟩ (.func fn (a.toList.map (ev n f)).toArray (c.toList.map (ev n f)).toArray) := by
 unfold PV; intro w
 have h1 : a.map (ev n f) = (a.toList.map (ev n f)).toArray := Array.ext' (by simp)
 have h2 : c.map (ev n f) = (c.toList.map (ev n f)).toArray := Array.ext' (by simp)
 simp only [execOp, Instr.makeFunc, h1, h2]
 rfl
theorem PV.not {t : Nat} {x : Operand} {b : Bool} (hx : ev n f x = .bool b) : PV P n f ⟨dst, .unOp .not t x, ty, pos, aft, gd⟩ (.bool (!b)) := by
 unfold PV; intro w; simp [execOp, hx, Op.unary]
theorem wrap_in (n : Int) (h : -9223372036854775808 ≤ n ∧ n ≤ 9223372036854775807) : IntKind.i64.wrap n = n := by
 rw [IntKind.wrap_i64]; omega
section
variable {t t2 : Nat} {x y : Operand} {a b : Int}
theorem PV.add (hx : ev n f x = .int .i64 a) (hy : ev n f y = .int .i64 b) (h : -9223372036854775808 ≤ a + b ∧ a + b ≤ 9223372036854775807) :
 PV P n f ⟨dst, .binOp .add t x y t2, ty, pos, aft, gd⟩ (.int .i64 (a + b)) := by
 unfold PV; intro w; simp [execOp, hx, hy, eqGuard, binOp, Op.intArith, wrap_in _ h]
theorem PV.sub (hx : ev n f x = .int .i64 a) (hy : ev n f y = .int .i64 b) (h : -9223372036854775808 ≤ a - b ∧ a - b ≤ 9223372036854775807) :
 PV P n f ⟨dst, .binOp .sub t x y t2, ty, pos, aft, gd⟩ (.int .i64 (a - b)) := by
 unfold PV; intro w; simp [execOp, hx, hy, eqGuard, binOp, Op.intArith, wrap_in _ h]
theorem PV.mul (hx : ev n f x = .int .i64 a) (hy : ev n f y = .int .i64 b) (h : -9223372036854775808 ≤ a * b ∧ a * b ≤ 9223372036854775807) :
 PV P n f ⟨dst, .binOp .mul t x y t2, ty, pos, aft, gd⟩ (.int .i64 (a * b)) := by
 unfold PV; intro w; simp [execOp, hx, hy, eqGuard, binOp, Op.intArith, wrap_in _ h]
theorem PV.rem (hx : ev n f x = .int .i64 a) (hy : ev n f y = .int .i64 b) (h : b ≠ 0) :
 PV P n f ⟨dst, .binOp .rem t x y t2, ty, pos, aft, gd⟩ (.int .i64 (a.tmod b)) := by
 unfold PV; intro w; simp [execOp, hx, hy, eqGuard, binOp, Op.intDiv, h]
theorem PV.lssT {k : IntKind} (hx : ev n f x = .int k a) (hy : ev n f y = .int k b) (h : a < b) : PV P n f ⟨dst, .binOp .lss t x y t2, ty, pos, aft, gd⟩ (.bool true) := by
 unfold PV; intro w; simp [execOp, hx, hy, eqGuard, binOp, Op.intCmp, h]
theorem PV.lssF {k : IntKind} (hx : ev n f x = .int k a) (hy : ev n f y = .int k b) (h : b ≤ a) : PV P n f ⟨dst, .binOp .lss t x y t2, ty, pos, aft, gd⟩ (.bool false) := by
 unfold PV; intro w; simp [execOp, hx, hy, eqGuard, binOp, Op.intCmp, h]
theorem PV.leqT {k : IntKind} (hx : ev n f x = .int k a) (hy : ev n f y = .int k b) (h : a ≤ b) : PV P n f ⟨dst, .binOp .leq t x y t2, ty, pos, aft, gd⟩ (.bool true) := by
 unfold PV; intro w; simp [execOp, hx, hy, eqGuard, binOp, Op.intCmp, h]
theorem PV.leqF {k : IntKind} (hx : ev n f x = .int k a) (hy : ev n f y = .int k b) (h : b < a) : PV P n f ⟨dst, .binOp .leq t x y t2, ty, pos, aft, gd⟩ (.bool false) := by
 unfold PV; intro w; simp [execOp, hx, hy, eqGuard, binOp, Op.intCmp, h]
theorem PV.gtrT {k : IntKind} (hx : ev n f x = .int k a) (hy : ev n f y = .int k b) (h : b < a) : PV P n f ⟨dst, .binOp .gtr t x y t2, ty, pos, aft, gd⟩ (.bool true) := by
 unfold PV; intro w; simp [execOp, hx, hy, eqGuard, binOp, Op.intCmp, h]
theorem PV.gtrF {k : IntKind} (hx : ev n f x = .int k a) (hy : ev n f y = .int k b) (h : a ≤ b) : PV P n f ⟨dst, .binOp .gtr t x y t2, ty, pos, aft, gd⟩ (.bool false) := by
 unfold PV; intro w; simp [execOp, hx, hy, eqGuard, binOp, Op.intCmp, h]
theorem PV.geqT {k : IntKind} (hx : ev n f x = .int k a) (hy : ev n f y = .int k b) (h : b ≤ a) : PV P n f ⟨dst, .binOp .geq t x y t2, ty, pos, aft, gd⟩ (.bool true) := by
 unfold PV; intro w; simp [execOp, hx, hy, eqGuard, binOp, Op.intCmp, h]
theorem PV.geqF {k : IntKind} (hx : ev n f x = .int k a) (hy : ev n f y = .int k b) (h : a < b) : PV P n f ⟨dst, .binOp .geq t x y t2, ty, pos, aft, gd⟩ (.bool false) := by
 unfold PV; intro w; simp [execOp, hx, hy, eqGuard, binOp, Op.intCmp, h]
theorem PV.eqlT {k : IntKind} (hx : ev n f x = .int k a) (hy : ev n f y = .int k b) (h : a = b) : PV P n f ⟨dst, .binOp .eql t x y t2, ty, pos, aft, gd⟩ (.bool true) := by
 unfold PV; intro w; simp [execOp, hx, hy, eqGuard, binOp, Op.intCmp, h]
theorem PV.eqlF {k : IntKind} (hx : ev n f x = .int k a) (hy : ev n f y = .int k b) (h : a ≠ b) : PV P n f ⟨dst, .binOp .eql t x y t2, ty, pos, aft, gd⟩ (.bool false) := by
 unfold PV; intro w; simp [execOp, hx, hy, eqGuard, binOp, Op.intCmp, h]
theorem PV.neqT {k : IntKind} (hx : ev n f x = .int k a) (hy : ev n f y = .int k b) (h : a ≠ b) : PV P n f ⟨dst, .binOp .neq t x y t2, ty, pos, aft, gd⟩ (.bool true) := by
 unfold PV; intro w; simp [execOp, hx, hy, eqGuard, binOp, Op.intCmp, h]
theorem PV.neqF {k : IntKind} (hx : ev n f x = .int k a) (hy : ev n f y = .int k b) (h : a = b) : PV P n f ⟨dst, .binOp .neq t x y t2, ty, pos, aft, gd⟩ (.bool false) := by
 unfold PV; intro w; simp [execOp, hx, hy, eqGuard, binOp, Op.intCmp, h]
theorem PV.seqlT {p q : ByteArray} (hx : ev n f x = .string p) (hy : ev n f y = .string q) (h : p.toList = q.toList) : PV P n f ⟨dst, .binOp .eql t x y t2, ty, pos, aft, gd⟩ (.bool true) := by
 unfold PV; intro w; simp [execOp, hx, hy, eqGuard, binOp, Op.stringOp, h]
theorem PV.seqlF {p q : ByteArray} (hx : ev n f x = .string p) (hy : ev n f y = .string q) (h : p.toList ≠ q.toList) : PV P n f ⟨dst, .binOp .eql t x y t2, ty, pos, aft, gd⟩ (.bool false) := by
 unfold PV; intro w; simp [execOp, hx, hy, eqGuard, binOp, Op.stringOp, h]
theorem PV.sneqT {p q : ByteArray} (hx : ev n f x = .string p) (hy : ev n f y = .string q) (h : p.toList ≠ q.toList) : PV P n f ⟨dst, .binOp .neq t x y t2, ty, pos, aft, gd⟩ (.bool true) := by
 unfold PV; intro w; simp [execOp, hx, hy, eqGuard, binOp, Op.stringOp, h]
theorem PV.sneqF {p q : ByteArray} (hx : ev n f x = .string p) (hy : ev n f y = .string q) (h : p.toList = q.toList) : PV P n f ⟨dst, .binOp .neq t x y t2, ty, pos, aft, gd⟩ (.bool false) := by
 unfold PV; intro w; simp [execOp, hx, hy, eqGuard, binOp, Op.stringOp, h]
end
def isPtrD : TypeDesc → Bool
 | .pointer _ => true
 | _ => false
def isSlD : TypeDesc → Bool
 | .slice _ => true
 | _ => false
def isMapD : TypeDesc → Bool
 | .map _ _ => true
 | _ => false
def tIs (T : Tab) (p : TypeDesc → Bool) (t : Nat) : Bool :=
 match tget T t with
 | some e => p e.desc
 | none => false
theorem tIs_ptr (hT : T.ok P) {t : Nat} (h : tIs T isPtrD t = true) : ∃ e, P.underlying t = some (.pointer e) := by
 unfold tIs at h
 split at h
 · rename_i e he
   have h1 := (tget_ok hT he).und
   cases hd : e.desc <;> rw [hd] at h <;> first | exact ⟨_, by rw [h1, hd]⟩ | cases h
 · cases h
theorem tIs_sl (hT : T.ok P) {t : Nat} (h : tIs T isSlD t = true) : ∃ e, P.underlying t = some (.slice e) := by
 unfold tIs at h
 split at h
 · rename_i e he
   have h1 := (tget_ok hT he).und
   cases hd : e.desc <;> rw [hd] at h <;> first | exact ⟨_, by rw [h1, hd]⟩ | cases h
 · cases h
theorem tIs_map (hT : T.ok P) {t : Nat} (h : tIs T isMapD t = true) : ∃ k e, P.underlying t = some (.map k e) := by
 unfold tIs at h
 split at h
 · rename_i e he
   have h1 := (tget_ok hT he).und
   cases hd : e.desc <;> rw [hd] at h <;> first | exact ⟨_, _, by rw [h1, hd]⟩ | cases h
 · cases h
section
variable {t t2 : Nat} {x y : Operand}
theorem run_eq_ptr0 {t e : Nat} (h : P.underlying t = some (.pointer e)) (p : Option Addr) (d : Nat) (w : World) : (Op.equalIn (d + 1) t (.pointer p) (.pointer none)).run P w = .ok p.isNone w := by
 cases p <;> simp [Op.equalIn, run_underlying h]
theorem run_eq_ptr {t e : Nat} (h : P.underlying t = some (.pointer e)) (p : Option Addr) (w : World) : (Op.equal t (.pointer p) (.pointer none)).run P w = .ok p.isNone w :=
 run_eq_ptr0 h p 9999 w
theorem run_eq_sl0 {t e : Nat} (h : P.underlying t = some (.slice e)) (p : Option Addr) (l c : Nat) (d : Nat) (w : World) : (Op.equalIn (d + 1) t (.slice p l c) (.slice none 0 0)).run P w = .ok p.isNone w := by
 cases p <;> simp [Op.equalIn, run_underlying h]
theorem run_eq_sl {t e : Nat} (h : P.underlying t = some (.slice e)) (p : Option Addr) (l c : Nat) (w : World) : (Op.equal t (.slice p l c) (.slice none 0 0)).run P w = .ok p.isNone w :=
 run_eq_sl0 h p l c 9999 w
theorem run_eq_map0 {t k e : Nat} (h : P.underlying t = some (.map k e)) (p : Option Nat) (d : Nat) (w : World) : (Op.equalIn (d + 1) t (.map p) (.map none)).run P w = .ok p.isNone w := by
 cases p <;> simp [Op.equalIn, run_underlying h]
theorem run_eq_map {t k e : Nat} (h : P.underlying t = some (.map k e)) (p : Option Nat) (w : World) : (Op.equal t (.map p) (.map none)).run P w = .ok p.isNone w :=
 run_eq_map0 h p 9999 w
theorem run_eq_rtp0 {t e : Nat} (h : P.underlying t = some (.pointer e)) (p : Option Addr) (d : Nat) (w : World) : (Op.equalIn (d + 1) t (.pointer none) (.pointer p)).run P w = .ok p.isNone w := by
 cases p <;> simp [Op.equalIn, run_underlying h]
theorem run_eq_rtp {t e : Nat} (h : P.underlying t = some (.pointer e)) (p : Option Addr) (w : World) : (Op.equal t (.pointer none) (.pointer p)).run P w = .ok p.isNone w :=
 run_eq_rtp0 h p 9999 w
theorem PV.eqlNP (hT : T.ok P) (ht : tIs T isPtrD t = true) {a : Addr} (hx : ev n f x = .pointer none) (hy : ev n f y = .pointer (some a)) : PV P n f ⟨dst, .binOp .eql t x y t2, ty, pos, aft, gd⟩ (.bool false) := by
 unfold PV; intro w; obtain ⟨e, he⟩ := tIs_ptr hT ht; simp [execOp, hx, hy, eqGuard, binOp, run_eq_rtp he]
theorem PV.neqNP (hT : T.ok P) (ht : tIs T isPtrD t = true) {a : Addr} (hx : ev n f x = .pointer none) (hy : ev n f y = .pointer (some a)) : PV P n f ⟨dst, .binOp .neq t x y t2, ty, pos, aft, gd⟩ (.bool true) := by
 unfold PV; intro w; obtain ⟨e, he⟩ := tIs_ptr hT ht; simp [execOp, hx, hy, eqGuard, binOp, run_eq_rtp he]
theorem PV.eqlPN (hT : T.ok P) (ht : tIs T isPtrD t = true) (hx : ev n f x = .pointer none) (hy : ev n f y = .pointer none) : PV P n f ⟨dst, .binOp .eql t x y t2, ty, pos, aft, gd⟩ (.bool true) := by
 unfold PV; intro w; obtain ⟨e, he⟩ := tIs_ptr hT ht; simp [execOp, hx, hy, eqGuard, binOp, run_eq_ptr he]
theorem PV.eqlPS (hT : T.ok P) (ht : tIs T isPtrD t = true) {a : Addr} (hx : ev n f x = .pointer (some a)) (hy : ev n f y = .pointer none) : PV P n f ⟨dst, .binOp .eql t x y t2, ty, pos, aft, gd⟩ (.bool false) := by
 unfold PV; intro w; obtain ⟨e, he⟩ := tIs_ptr hT ht; simp [execOp, hx, hy, eqGuard, binOp, run_eq_ptr he]
theorem PV.neqPN (hT : T.ok P) (ht : tIs T isPtrD t = true) (hx : ev n f x = .pointer none) (hy : ev n f y = .pointer none) : PV P n f ⟨dst, .binOp .neq t x y t2, ty, pos, aft, gd⟩ (.bool false) := by
 unfold PV; intro w; obtain ⟨e, he⟩ := tIs_ptr hT ht; simp [execOp, hx, hy, eqGuard, binOp, run_eq_ptr he]
theorem PV.neqPS (hT : T.ok P) (ht : tIs T isPtrD t = true) {a : Addr} (hx : ev n f x = .pointer (some a)) (hy : ev n f y = .pointer none) : PV P n f ⟨dst, .binOp .neq t x y t2, ty, pos, aft, gd⟩ (.bool true) := by
 unfold PV; intro w; obtain ⟨e, he⟩ := tIs_ptr hT ht; simp [execOp, hx, hy, eqGuard, binOp, run_eq_ptr he]
theorem PV.eqlSN (hT : T.ok P) (ht : tIs T isSlD t = true) {l c : Nat} (hx : ev n f x = .slice none l c) (hy : ev n f y = .slice none 0 0) : PV P n f ⟨dst, .binOp .eql t x y t2, ty, pos, aft, gd⟩ (.bool true) := by
 unfold PV; intro w; obtain ⟨e, he⟩ := tIs_sl hT ht; simp [execOp, hx, hy, eqGuard, binOp, run_eq_sl he]
theorem PV.eqlSS (hT : T.ok P) (ht : tIs T isSlD t = true) {a : Addr} {l c : Nat} (hx : ev n f x = .slice (some a) l c) (hy : ev n f y = .slice none 0 0) : PV P n f ⟨dst, .binOp .eql t x y t2, ty, pos, aft, gd⟩ (.bool false) := by
 unfold PV; intro w; obtain ⟨e, he⟩ := tIs_sl hT ht; simp [execOp, hx, hy, eqGuard, binOp, run_eq_sl he]
theorem PV.eqlMN (hT : T.ok P) (ht : tIs T isMapD t = true) (hx : ev n f x = .map none) (hy : ev n f y = .map none) : PV P n f ⟨dst, .binOp .eql t x y t2, ty, pos, aft, gd⟩ (.bool true) := by
 unfold PV; intro w; obtain ⟨k, e, he⟩ := tIs_map hT ht; simp [execOp, hx, hy, eqGuard, binOp, run_eq_map he]
theorem PV.eqlMS (hT : T.ok P) (ht : tIs T isMapD t = true) {a : Nat} (hx : ev n f x = .map (some a)) (hy : ev n f y = .map none) : PV P n f ⟨dst, .binOp .eql t x y t2, ty, pos, aft, gd⟩ (.bool false) := by
 unfold PV; intro w; obtain ⟨k, e, he⟩ := tIs_map hT ht; simp [execOp, hx, hy, eqGuard, binOp, run_eq_map he]
end
theorem PV.lenS (hT : T.ok P) {t : Nat} {x : Operand} {a : Option Addr} {l c : Nat} (ht : tIs T isSlD t = true) (hx : ev n f x = .slice a l c) :
 PV P n f ⟨dst, .call ⟨.builtin .len, #[x], #[t]⟩, ty, pos, aft, gd⟩ (.int .i64 l) := by
 unfold PV; intro w; obtain ⟨e, he⟩ := tIs_sl hT ht; simp [execOp, resolve, invoke, builtin, Builtin.len_, hx, run_underlying he, goInt]
def isStrD : TypeDesc → Bool
 | .string => true
 | _ => false
theorem tIs_str (hT : T.ok P) {t : Nat} (h : tIs T isStrD t = true) : P.underlying t = some .string := by
 unfold tIs at h
 split at h
 · rename_i e he
   have h1 := (tget_ok hT he).und
   cases hd : e.desc <;> rw [hd] at h <;> first | (cases h; done) | (rw [h1, hd]; done)
 · cases h
theorem PV.lenT (hT : T.ok P) {t : Nat} {x : Operand} {s : ByteArray} (ht : tIs T isStrD t = true) (hx : ev n f x = .string s) :
 PV P n f ⟨dst, .call ⟨.builtin .len, #[x], #[t]⟩, ty, pos, aft, gd⟩ (.int .i64 s.size) := by
 unfold PV; intro w; have he := tIs_str hT ht; simp [execOp, resolve, invoke, builtin, Builtin.len_, hx, run_underlying he, goInt]
theorem PV.maxI {t1 t2 : Nat} {x y : Operand} {a b : Int} (hx : ev n f x = .int .i64 a) (hy : ev n f y = .int .i64 b) :
 PV P n f ⟨dst, .call ⟨.builtin .max, #[x, y], #[t1, t2]⟩, ty, pos, aft, gd⟩ (.int .i64 (max a b)) := by
 unfold PV; intro w
 have : (if a < b then b else a) = max a b := by omega
 simp [execOp, resolve, invoke, builtin, Builtin.max_, Builtin.max2, hx, hy, this]
theorem PV.minI {t1 t2 : Nat} {x y : Operand} {a b : Int} (hx : ev n f x = .int .i64 a) (hy : ev n f y = .int .i64 b) :
 PV P n f ⟨dst, .call ⟨.builtin .min, #[x, y], #[t1, t2]⟩, ty, pos, aft, gd⟩ (.int .i64 (min a b)) := by
 unfold PV; intro w
 have : (if b < a then b else a) = min a b := by omega
 simp [execOp, resolve, invoke, builtin, Builtin.min_, Builtin.min2, hx, hy, this]
def elSz (T : Tab) (t : Nat) : Option Nat :=
 match tget T t with
 | some ⟨.slice e, _, _, _⟩ => match tget T e with
   | some x => some x.size
   | none => none
 | _ => none
theorem elSz_ok (hT : T.ok P) {t sz : Nat} (h : elSz T t = some sz) : ∃ e i z x, P.underlying t = some (.slice e) ∧ P.info? e = some i ∧ i.size = sz ∧ i.zero = some z ∧ tget T e = some x ∧ x.size = sz ∧ i.bytes = x.bytes ∧ z.cells = x.zero.toArray := by
 unfold elSz at h
 split at h
 · rename_i e _ _ _ he
   split at h
   · rename_i x hx
     cases h
     obtain ⟨_, _, i, z, h1, h2, h3, h4, h5⟩ := tget_ok hT hx
     exact ⟨e, i, z, x, (tget_ok hT he).und, h1, h2, h4, hx, rfl, h3, h5⟩
   · cases h
 · cases h
theorem PV.indexAddr (hT : T.ok P) {t sz : Nat} {x y : Operand} {b o l c : Nat} {j : Int} {k : IntKind} (hx : ev n f x = .slice (some ⟨b, o, none⟩) l c) (hy : ev n f y = .int k j) (hs : elSz T t = some sz)
 (h : 0 ≤ j ∧ j < l) : PV P n f ⟨dst, .indexAddr t x y, ty, pos, aft, gd⟩ (.pointer (some ⟨b, o + j.toNat * sz, none⟩)) := by
 unfold PV; intro w
 obtain ⟨e, i, z, x', h1, h2, h3, h4, _⟩ := elSz_ok hT hs
 simp [execOp, hx, hy, Instr.indexAt, asIntOf, run_underlying h1, h, sizeOf, run_info h2, h3, Addr.add_none]
def arSz (T : Tab) (t : Nat) : Option (Nat × Nat) :=
 match tget T t with
 | some ⟨.array l e, _, _, _⟩ => match tget T e with
   | some x => some (l, x.size)
   | none => none
 | _ => none
theorem arSz_ok (hT : T.ok P) {t l sz : Nat} (h : arSz T t = some (l, sz)) : ∃ e i, P.underlying t = some (.array l e) ∧ P.info? e = some i ∧ i.size = sz := by
 unfold arSz at h
 split at h
 · rename_i e _ _ _ he
   split at h
   · rename_i x hx
     cases h
     obtain ⟨_, _, i, z, h1, h2, h3, h4, h5⟩ := tget_ok hT hx
     exact ⟨e, i, (tget_ok hT he).und, h1, h2⟩
   · cases h
 · cases h
theorem PV.indexAddrA (hT : T.ok P) {t sz l : Nat} {x y : Operand} {b o : Nat} {j : Int} {k : IntKind} (hx : ev n f x = .pointer (some ⟨b, o, none⟩)) (hy : ev n f y = .int k j) (hs : arSz T t = some (l, sz))
 (h : 0 ≤ j ∧ j < l) : PV P n f ⟨dst, .indexAddr t x y, ty, pos, aft, gd⟩ (.pointer (some ⟨b, o + j.toNat * sz, none⟩)) := by
 unfold PV; intro w
 obtain ⟨e, i, h1, h2, h3⟩ := arSz_ok hT hs
 simp [execOp, hx, hy, Instr.indexAt, asIntOf, run_underlying h1, h, sizeOf, run_info h2, h3, Addr.add_none, Instr.sureAddr]
def putAt : List Value → Nat → List Value → Option (List Value)
 | cs, _, [] => some cs
 | cs, off, v :: vs => match setX cs off v with
   | some cs' => putAt cs' (off + 1) vs
   | none => none
def buildF (fs : Array Field) (T : Tab) : List Value → List (Nat × List Value) → Option (List Value)
 | cs, [] => some cs
 | cs, (i, vs) :: rest => match fs[i]? with
   | some fd => match tget T fd.type with
     | some e => bif Nat.beq vs.length e.size && Nat.blt 0 vs.length then (match putAt cs fd.offset vs with | some cs' => buildF fs T cs' rest | none => none) else none
     | none => none
   | none => none
def cellsL : Value → Option (List Value)
 | .agg cs => some cs.toList
 | .bool b => some [.bool b]
 | .int k n => some [.int k n]
 | .string s => some [.string s]
 | .pointer a => some [.pointer a]
 | .slice a l c => some [.slice a l c]
 | .map r => some [.map r]
 | .func a b c => some [.func a b c]
 | .nilFunc => some [.nilFunc]
 | .iface t v => some [.iface t v]
 | .nilIface => some [.nilIface]
 | _ => none
theorem cellsL_eq {v : Value} {l : List Value} (h : cellsL v = some l) : v.cells = l.toArray := by
 cases v <;> cases h <;> rfl
end
end Go.Eng
namespace Go.Eng
open Go
def Has (i : Imm) (L : SH) (b : Nat) (o : Obj) : Prop := i.blk b = some o ∨ (b, o) ∈ L
theorem Has.own {i : Imm} {L : SH} {b : Nat} {o : Obj} (k : Nat) (h : L[k]? = some (b, o)) : Has i L b o := .inr (List.mem_of_getElem? h)
theorem Has.imm {i : Imm} {L : SH} {b : Nat} {o : Obj} (h : i.blk b = some o) : Has i L b o := .inl h
theorem Has.block {i : Imm} {L : SH} {b : Nat} {o : Obj} {w : World} (h : Has i L b o) (hs : St i L w) : w.heap[b]? = some o := by
 rcases h with h | h
 · exact hs.imm b o h
 · exact hs.own (b, o) h
theorem St.put {i : Imm} {L : SH} {w w' : World} {k b : Nat} {o o' : Obj} (h : St i L w) (hk : L[k]? = some (b, o)) (h1 : w'.os = w.os) (h2 : w'.tape = w.tape) (h3 : w'.output = w.output)
 (hh : ∀ c, w'.heap[c]? = if c = b then some o' else w.heap[c]?) : St i (L.set k (b, o')) w' := by
 have hkl : k < L.length := by
  rcases Nat.lt_or_ge k L.length with h | h
  · exact h
  · rw [List.getElem?_eq_none h] at hk; cases hk
 have hmem : (b, o) ∈ L := List.mem_of_getElem? hk
 have hmap : (L.set k (b, o')).map Prod.fst = L.map Prod.fst := by
  rw [List.map_set]
  apply List.ext_getElem?
  intro j
  rw [List.getElem?_set]
  split
  · rename_i e; subst e
    have : L[k] = (b, o) := (List.getElem?_eq_some_iff.1 hk).2
    simp [hkl, this]
  · rfl
 have other : ∀ p ∈ L.set k (b, o'), p = (b, o') ∨ (p ∈ L ∧ p.1 ≠ b) := by
  intro p hp
  obtain ⟨j, hj⟩ := List.mem_iff_getElem?.1 hp
  rw [List.getElem?_set] at hj
  split at hj
  · first
     | exact .inl (Option.some.inj hj).symm
     | (split at hj
        · exact .inl (Option.some.inj hj).symm
        · cases hj)
  · rename_i hne
    refine .inr ⟨List.mem_of_getElem? hj, fun e => hne ?_⟩
    have e1 : (L.map Prod.fst)[j]? = some b := by simp [hj, e]
    have e2 : (L.map Prod.fst)[k]? = some b := by simp [hk]
    have hjl : j < (L.map Prod.fst).length := (List.getElem?_eq_some_iff.1 e1).1
    exact ((List.getElem?_inj hjl h.nodup).1 (e1.trans e2.symm)).symm
 refine ⟨h1.trans h.os, h2.trans h.tape, h3.trans h.output, fun c o₁ hc => ?_, by rw [hmap]; exact h.nodup, fun p hp => ?_, fun p hp => ?_⟩
 · have hne : c ≠ b := by
    rintro rfl
    have := h.sep _ hmem
    rw [hc] at this; cases this
   rw [hh, if_neg hne]; exact h.imm c o₁ hc
 · rcases other p hp with rfl | ⟨hp', hne⟩
   · rw [hh, if_pos rfl]
   · rw [hh, if_neg hne]; exact h.own p hp'
 · rcases other p hp with rfl | ⟨hp', hne⟩
   · exact h.sep (b, o) hmem
   · exact h.sep p hp'
theorem St.push {i : Imm} {L : SH} {w w' : World} {o : Obj} (h : St i L w) (h1 : w'.os = w.os) (h2 : w'.tape = w.tape) (h3 : w'.output = w.output)
 (hh : w'.heap = w.heap.push o) : St i ((w.heap.size, o) :: L) w' := by
 have lt : ∀ {b : Nat} {o' : Obj}, w.heap[b]? = some o' → b < w.heap.size := fun h => (Array.getElem?_eq_some_iff.1 h).1
 refine ⟨h1.trans h.os, h2.trans h.tape, h3.trans h.output, fun c o' hc => ?_, ?_, fun p hp => ?_, fun p hp => ?_⟩
 · have := h.imm c o' hc
   rw [hh, Array.getElem?_push_lt (lt this), ← this, Array.getElem?_eq_getElem (lt this)]
 · simp only [List.map_cons, List.nodup_cons]
   refine ⟨fun hm => ?_, h.nodup⟩
   obtain ⟨p, hp, e⟩ := List.mem_map.1 hm
   have := lt (h.own p hp)
   omega
 · rcases List.mem_cons.1 hp with rfl | hp
   · rw [hh]; simp
   · have := h.own p hp
     rw [hh, Array.getElem?_push_lt (lt this), ← this, Array.getElem?_eq_getElem (lt this)]
 · rcases List.mem_cons.1 hp with rfl | hp
   · cases hb : i.blk w.heap.size with
     | none => rfl
     | some o' => have := lt (h.imm _ _ hb); omega
   · exact h.sep p hp
theorem heap_setRow (w : World) (g : Nat) (cs cur : Array Value) (e : TypeId) (fz : Nat × Nat) (h : w.heap[g]? = some (.cells cur e fz)) :
 ∀ c, (w.setRow g cs).heap[c]? = if c = g then some (.cells cs e fz) else w.heap[c]? := by
 intro c
 simp only [World.setRow, Array.getElem?_modify]
 by_cases hc : c = g
 · subst hc; simp [h]
 · rw [if_neg (Ne.symm hc), if_neg hc]
section
variable {P : Program} {n : Nat} {f : Fr} {i : Imm} {L : SH} {dst : Option Nat} {ty : TypeId} {pos : String} {aft : Array Edge} {gd : Option (Nat × Bool)} {v : Value} {T : Tab} {K : Value → Imm → SH → Prop}
def ldV (T : Tab) (t off : Nat) (cs : List Value) : Option Value :=
 match tget T t with
 | some e => bif isAggD e.desc then (match takeX e.size (cs.drop off) with | some l => some (.agg l.toArray) | none => none) else (match cs[off]? with | some v => sv v | none => none)
 | none => none
theorem cell_at {w : World} {b : Nat} {cs : List Value} {t : TypeId} {fz : Nat × Nat} (h : w.heap[b]? = some (.cells cs.toArray t fz)) (off : Nat) : w.cell? ⟨b, off, none⟩ = cs[off]? := by
 simp [World.cell?, h]
theorem run_load_one {w : World} {b off : Nat} {u : Value} {t : TypeId} {d : TypeDesc} (hd : P.underlying t = some d) (ha : isAggD d = false) (h : w.cell? ⟨b, off, none⟩ = some u) :
 (Instr.loadAt t (.pointer (some ⟨b, off, none⟩))).run P w = .ok u w := by
 simp [Instr.loadAt, Instr.sureAddr, loadVar, run_isAgg hd, ha, h]
theorem run_load_agg {w : World} {b off : Nat} {l : List Value} {t : TypeId} {d : TypeDesc} {ti : TypeInfo} (hd : P.underlying t = some d) (ha : isAggD d = true) (hi : P.info? t = some ti) (hs : ti.size = l.length)
 (h : ∀ j u, l[j]? = some u → w.cell? ⟨b, off + j, none⟩ = some u) : (Instr.loadAt t (.pointer (some ⟨b, off, none⟩))).run P w = .ok (.agg l.toArray) w := by
 have := run_loadCells_list (P := P) (w := w) ⟨b, off, none⟩ l (fun j u hj => by rw [Addr.add_none]; exact h j u hj)
 simp [Instr.loadAt, Instr.sureAddr, loadVar, run_isAgg hd, ha, sizeOf, run_info hi, hs, this]
theorem run_ldV (hT : T.ok P) {w : World} {b off : Nat} {cs : List Value} {t t' : TypeId} {fz : Nat × Nat} (h : w.heap[b]? = some (.cells cs.toArray t' fz)) (hv : ldV T t off cs = some v) :
 (Instr.loadAt t (.pointer (some ⟨b, off, none⟩))).run P w = .ok v w := by
 unfold ldV at hv
 split at hv
 · rename_i e he
   obtain ⟨h2, _, ti, z, hi, hs, _⟩ := tget_ok hT he
   cases hb : isAggD e.desc with
   | true =>
     simp only [hb, cond_true] at hv
     split at hv
     · rename_i l hl
       cases hv
       obtain ⟨e1, e2⟩ := takeX_eq _ _ _ hl
       refine run_load_agg (l := l) h2 hb hi (by omega) fun j u hj => ?_
       rw [cell_at h]
       rw [← e1, List.getElem?_take] at hj
       split at hj
       · simpa using hj
       · cases hj
     · cases hv
   | false =>
     simp only [hb, cond_false] at hv
     split at hv
     · rename_i u hu
       rw [sv_eq] at hv; cases hv
       exact run_load_one h2 hb (by rw [cell_at h]; exact hu)
     · cases hv
 · cases hv
theorem LV.load (hT : T.ok P) {t t' : TypeId} {x : Operand} {b off : Nat} {cs : List Value} {fz : Nat × Nat} (hx : ev n f x = .pointer (some ⟨b, off, none⟩)) (hb : Has i L b (.cells cs.toArray t' fz))
 (hv : ldV T t off cs = some v) : LV P n f i L ⟨dst, .load t x, ty, pos, aft, gd⟩ v := by
 unfold LV; intro w hw
 have := run_ldV hT (hb.block hw) hv
 simp [execOp, hx, this]
theorem LV.load1 (hT : T.ok P) {t t' : TypeId} {x : Operand} {b off : Nat} {cs : List Value} {fz : Nat × Nat} (hx : ev n f x = .pointer (some ⟨b, off, none⟩)) (hb : Has i L b (.cells cs.toArray t' fz))
 (ht : tIs T (fun d => !isAggD d) t = true) (hv : cs[off]? = some v) : LV P n f i L ⟨dst, .load t x, ty, pos, aft, gd⟩ v := by
 unfold LV; intro w hw
 unfold tIs at ht
 split at ht
 · rename_i e he
   have := run_load_one (P := P) (tget_ok hT he).und (by simpa using ht) ((cell_at (hb.block hw) off).trans hv)
   simp [execOp, hx, this]
 · cases ht
theorem LV.loadL (hT : T.ok P) {t t' : TypeId} {x : Operand} {b off : Nat} {cs l : List Value} {fz : Nat × Nat} (hx : ev n f x = .pointer (some ⟨b, off, none⟩)) (hb : Has i L b (.cells cs.toArray t' fz))
 {e : TyE} (ht : tget T t = some e) (ha : isAggD e.desc = true) (hl : l.length = e.size) (hv : ∀ j u, l[j]? = some u → cs[off + j]? = some u) : LV P n f i L ⟨dst, .load t x, ty, pos, aft, gd⟩ (.agg l.toArray) := by
 unfold LV; intro w hw
 obtain ⟨h2, _, ti, z, hi, hs, _⟩ := tget_ok hT ht
 have := run_load_agg (P := P) (b := b) (off := off) (w := w) (l := l) h2 ha hi (by omega) (fun j u hj => by rw [cell_at (hb.block hw)]; exact hv j u hj)
 simp [execOp, hx, this]
theorem putAt_eq : ∀ (vs cs : List Value) (off : Nat) (cs' : List Value), putAt cs off vs = some cs' → cs' = cs.take off ++ vs ++ cs.drop (off + vs.length) ∧ off + vs.length ≤ max off cs.length
 | [], cs, off, cs', h => by cases h; simp; omega
 | v :: vs, cs, off, cs', h => by
   simp only [putAt] at h
   split at h
   · rename_i c1 h1
     obtain ⟨e1, e2⟩ := setX_eq _ _ _ _ h1
     obtain ⟨e3, e4⟩ := putAt_eq vs c1 (off + 1) cs' h
     subst e1
     simp only [List.length_set] at e4
     refine ⟨?_, by simp only [List.length_cons]; omega⟩
     rw [e3]
     have a1 : (cs.set off v).take (off + 1) = cs.take off ++ [v] := by
      rw [List.take_add_one]
      simp [e2, List.take_set_of_le]
     have a2 : (cs.set off v).drop (off + 1 + vs.length) = cs.drop (off + (v :: vs).length) := by
      rw [List.drop_set_of_lt (by omega)]
      congr 1; simp; omega
     rw [a1, a2]; simp
   · cases h
def okStore (T : Tab) (t : Nat) (vs : List Value) : Bool :=
 match tget T t with
 | some e => Nat.beq vs.length e.size && vs.all (·.oneCell')
 | none => false
theorem run_storeAt (hT : T.ok P) {w : World} {b off : Nat} {cs cs' vs : List Value} {t t' : TypeId} (h : w.heap[b]? = some (.cells cs.toArray t' (0, 0))) {u : Value} (hc : cellsL u = some vs) (hok : okStore T t vs = true) (hvs : vs ≠ [])
 (hp : putAt cs off vs = some cs') : (Instr.storeAt t (.pointer (some ⟨b, off, none⟩)) u).run P w = .ok () (w.setRow b cs'.toArray) := by
 unfold okStore at hok
 split at hok
 · rename_i e he
   obtain ⟨h2, _, ti, z, hi, hs, _⟩ := tget_ok hT he
   simp only [Bool.and_eq_true] at hok
   have hlen : vs.length = e.size := Nat.eq_of_beq_eq_true hok.1
   obtain ⟨e1, e2⟩ := putAt_eq _ _ _ _ hp
   have hle : off + vs.length ≤ cs.length := by
    have : 0 < vs.length := List.length_pos_iff.2 hvs
    omega
   have hr := run_storeCells_at P b off t' vs 0 cs.toArray w h (by simpa using hle) (by simpa using hok.2)
   simp only [Nat.add_zero] at hr
   simp [Instr.storeAt, Instr.sureAddr, storeVar, cellsL_eq hc, sizeOf, run_info hi, hs, hlen, hr, e1]
 · cases hok
theorem OpS.store (hT : T.ok P) {t t' : TypeId} {x y : Operand} {b off k : Nat} {cs cs' vs : List Value} {u : Value} {L' : SH} (hx : ev n f x = .pointer (some ⟨b, off, none⟩)) (hy : ev n f y = u) (hc : cellsL u = some vs)
 (hk : L[k]? = some (b, .cells cs.toArray t' (0, 0))) (hok : okStore T t vs = true) (hp : putAt cs off vs = some cs') (hL : setX L k (b, .cells cs'.toArray t' (0, 0)) = some L') (h : K undef i L') :
 OpS P n ⟨dst, .store t x y, ty, pos, aft, gd⟩ f i L K := by
 refine OpS.skipW fun w hw => ?_
 have hb := hw.own _ (List.mem_of_getElem? hk)
 by_cases hvs : vs = []
 · subst hvs
   cases hp
   refine ⟨w, i, L, ?_, Imm.le.refl i, hw, ?_⟩
   · unfold okStore at hok
     split at hok
     · rename_i e he
       obtain ⟨h2, _, ti, z, hi, hs, _⟩ := tget_ok hT he
       simp only [Bool.and_eq_true] at hok
       have hlen : ([] : List Value).length = e.size := Nat.eq_of_beq_eq_true hok.1
       simp [execOp, hx, hy, Instr.storeAt, Instr.sureAddr, storeVar, cellsL_eq hc, sizeOf, run_info hi, hs, ← hlen, storeCells]
     · cases hok
   · have e := (setX_eq _ _ _ _ hL).1
     have e2 : L.set k (b, .cells cs.toArray t' (0, 0)) = L := by
      obtain ⟨hkl, hkv⟩ := List.getElem?_eq_some_iff.1 hk
      rw [← hkv]; exact List.set_getElem_self hkl
     rw [e2] at e
     rw [e]; exact h
 · have hr := run_storeAt hT hb hc hok hvs hp
   refine ⟨_, i, L', by simp [execOp, hx, hy, hr]; rfl, Imm.le.refl i, ?_, h⟩
   rw [← (setX_eq _ _ _ _ hL).1]
   exact hw.put hk rfl rfl rfl (heap_setRow w b _ _ _ _ hb)
def zeroL (T : Tab) (t : Nat) : Option (List Value) :=
 match tget T t with
 | some e => some e.zero
 | none => none
theorem OpS.alloc (hT : T.ok P) {t : Nat} {zs : List Value} (hz : zeroL T t = some zs) (h : ∀ b, K (.pointer (some ⟨b, 0, none⟩)) i ((b, .cells zs.toArray t (0, 0)) :: L)) :
 OpS P n ⟨dst, .alloc t, ty, pos, aft, gd⟩ f i L K := by
 refine OpS.valueW fun w hw => ?_
 unfold zeroL at hz
 split at hz
 · rename_i e he
   cases hz
   obtain ⟨h2, _, ti, z, hi, hs, hby, hzz, hzc⟩ := tget_ok hT he
   refine ⟨.pointer (some ⟨w.heap.size, 0, none⟩), { w with heap := w.heap.push (.cells e.zero.toArray t (0, 0)) }, i, _, ?_, Imm.le.refl i, hw.push rfl rfl rfl rfl, h _⟩
   simp [execOp, Instr.alloc, zeroValue, run_info hi, hzz, newVar, newRow, hzc]
 · cases hz
theorem OpS.box {t : Nat} {x : Operand} {vs : List Value} (hx : cellsL (ev n f x) = some vs) (h : ∀ b, K (.pointer (some ⟨b, 0, none⟩)) i ((b, .cells vs.toArray t (0, 0)) :: L)) :
 OpS P n ⟨dst, .box t x, ty, pos, aft, gd⟩ f i L K := by
 refine OpS.valueW fun w hw => ?_
 refine ⟨.pointer (some ⟨w.heap.size, 0, none⟩), { w with heap := w.heap.push (.cells vs.toArray t (0, 0)) }, i, _, ?_, Imm.le.refl i, hw.push rfl rfl rfl rfl, h _⟩
 simp [execOp, Instr.box, newVar, newRow, cellsL_eq hx]
def fnOk (P : Program) (g : FuncId) : Bool :=
 match P.funcs[g]? with
 | some fn => !(fn.name == "runtime.NumGoroutine") && fn.body.isSome
 | none => false
theorem run_callFunc {g : FuncId} (h : fnOk P g = true) (args : Array Value) (w : World) : (callFunc g args).run P w = .ok (.enter g args) w := by
 unfold fnOk at h
 split at h
 · rename_i fn hfn
   simp only [Bool.and_eq_true, Bool.not_eq_true'] at h
   have h1 : ¬ fn.name = "runtime.NumGoroutine" := by simpa using h.1
   have h2 : ¬ fn.body = none := by intro hb; rw [hb] at h; exact absurd h.2 (by simp)
   simp [callFunc, hfn, h1, h2]
 · cases h
theorem OpS.call {g : FuncId} {as : Array Operand} {ts : Array TypeId} {vs : List Value} {Post : Value → Imm → SH → Prop} (hg : fnOk P g = true) (ha : as.toList.map (ev n f) = vs) (h : FnS P g vs i L Post)
 (k : ∀ v i' L', i.le i' → Post v i' L' → K v i' L') : OpS P n ⟨dst, .call ⟨.value (.func g), as, ts⟩, ty, pos, aft, gd⟩ f i L K := by
 refine OpS.enter (g := g) (args := vs) (fun w => ?_) (h.mono k)
 have : as.map (ev n f) = vs.toArray := by rw [← ha]; exact Array.ext' (by simp)
 simp [execOp, resolve, this, ev, Deferred.ofValue, invoke, run_callFunc hg]
theorem OpS.callV {g : FuncId} {x : Operand} {fst cap : Array Value} {as : Array Operand} {ts : Array TypeId} {vs : List Value} {Post : Value → Imm → SH → Prop} (hx : ev n f x = .func (.func g) fst cap) (hg : fnOk P g = true)
 (ha : fst.toList ++ as.toList.map (ev n f) ++ cap.toList = vs) (h : FnS P g vs i L Post)
 (k : ∀ v i' L', i.le i' → Post v i' L' → K v i' L') : OpS P n ⟨dst, .call ⟨.value x, as, ts⟩, ty, pos, aft, gd⟩ f i L K := by
 refine OpS.enter (g := g) (args := vs) (fun w => ?_) (h.mono k)
 have : fst ++ (as.map (ev n f) ++ cap) = vs.toArray := by rw [← ha]; exact Array.ext' (by simp)
 simp [execOp, resolve, hx, Deferred.ofValue, invoke, run_callFunc hg, this]
end
section
variable {P : Program} {all : List Oper} {n : Nat} {r : List Oper} {f : Fr} {i : Imm} {L : SH} {K : Fr → Imm → SH → Prop} {dst : Option Nat} {ty : TypeId} {pos : String} {aft : Array Edge} {gd : Option (Nat × Bool)} {T : Tab} {v : Value}
theorem RS.store (hT : T.ok P) {t t' : TypeId} {x y : Operand} {b off k : Nat} {cs cs' vs : List Value} {u : Value} {L' : SH} (hg : gok n f all ⟨dst, .store t x y, ty, pos, aft, gd⟩ = true) (hx : ev n f x = .pointer (some ⟨b, off, none⟩)) (hy : ev n f y = u) (hc : cellsL u = some vs)
 (hk : L[k]? = some (b, .cells cs.toArray t' (0, 0))) (hok : okStore T t vs = true) (hp : putAt cs off vs = some cs') (hL : setX L k (b, .cells cs'.toArray t' (0, 0)) = some L') (h : RS P all n r (updO f dst undef) i L' K) :
 RS P all n (⟨dst, .store t x y, ty, pos, aft, gd⟩ :: r) f i L K :=
 RS.step hg (OpS.store hT hx hy hc hk hok hp hL h)
theorem RS.alloc (hT : T.ok P) {t : Nat} {zs : List Value} (hg : gok n f all ⟨dst, .alloc t, ty, pos, aft, gd⟩ = true) (hz : zeroL T t = some zs)
 (h : ∀ b, RS P all n r (updO f dst (.pointer (some ⟨b, 0, none⟩))) i ((b, .cells zs.toArray t (0, 0)) :: L) K) : RS P all n (⟨dst, .alloc t, ty, pos, aft, gd⟩ :: r) f i L K :=
 RS.step hg (OpS.alloc hT hz h)
theorem RS.box {t : Nat} {x : Operand} {vs : List Value} (hg : gok n f all ⟨dst, .box t x, ty, pos, aft, gd⟩ = true) (hx : cellsL (ev n f x) = some vs)
 (h : ∀ b, RS P all n r (updO f dst (.pointer (some ⟨b, 0, none⟩))) i ((b, .cells vs.toArray t (0, 0)) :: L) K) : RS P all n (⟨dst, .box t x, ty, pos, aft, gd⟩ :: r) f i L K :=
 RS.step hg (OpS.box hx h)
theorem RS.call {g : FuncId} {as : Array Operand} {ts : Array TypeId} {vs : List Value} {Post : Value → Imm → SH → Prop} (h : FnS P g vs i L Post) (hg : gok n f all ⟨dst, .call ⟨.value (.func g), as, ts⟩, ty, pos, aft, gd⟩ = true) (hf : fnOk P g = true)
 (ha : as.toList.map (ev n f) = vs) (k : ∀ v i' L', i.le i' → Post v i' L' → RS P all n r (updO f dst v) i' L' K) : RS P all n (⟨dst, .call ⟨.value (.func g), as, ts⟩, ty, pos, aft, gd⟩ :: r) f i L K :=
 RS.step hg (OpS.call hf ha h k)
theorem RS.callV {g : FuncId} {x : Operand} {fst cap : Array Value} {as : Array Operand} {ts : Array TypeId} {vs : List Value} {Post : Value → Imm → SH → Prop} (h : FnS P g vs i L Post) (hg : gok n f all ⟨dst, .call ⟨.value x, as, ts⟩, ty, pos, aft, gd⟩ = true)
 (hx : ev n f x = .func (.func g) fst cap) (hf : fnOk P g = true) (ha : fst.toList ++ as.toList.map (ev n f) ++ cap.toList = vs) (k : ∀ v i' L', i.le i' → Post v i' L' → RS P all n r (updO f dst v) i' L' K) :
 RS P all n (⟨dst, .call ⟨.value x, as, ts⟩, ty, pos, aft, gd⟩ :: r) f i L K :=
 RS.step hg (OpS.callV hx hf ha h k)
theorem RS.perm {L' : SH} (hp : L.Perm L') (h : RS P all n r f i L' K) : RS P all n r f i L K :=
 RS.state fun _ hw => ⟨i, L', Imm.le.refl i, hw.perm hp, h⟩
theorem RS.freeze {b : Nat} {o : Obj} (h : ∀ i', i.le i' → i'.blk b = some o → RS P all n r f i' L K) : RS P all n r f i ((b, o) :: L) K :=
 RS.state fun _ hw => ⟨i.add b o, L, hw.freeze.1, hw.freeze.2, h _ hw.freeze.1 (by simp [Imm.add])⟩
end
section
variable {P : Program} {n : Nat} {c : Code} {f : Fr} {i : Imm} {L : SH} {Q : Ex → Fr → Imm → SH → Prop}
theorem CS.perm {L' : SH} (hp : L.Perm L') (h : CS P n c f i L' Q) : CS P n c f i L Q :=
 CS.state fun _ hw => ⟨i, L', Imm.le.refl i, hw.perm hp, h⟩
end
theorem FnS.state {P : Program} {g : FuncId} {args : List Value} {i : Imm} {L : SH} {K K' : Value → Imm → SH → Prop} (h : FnS P g args i L K)
 (hk : ∀ v i' L' w, i.le i' → St i' L' w → K v i' L' → ∃ i'' L'', i'.le i'' ∧ St i'' L'' w ∧ K' v i'' L'') : FnS P g args i L K' :=
 fun w hw => (h w hw).mono fun _ w' ⟨v, i', L', he, hi, hs, k⟩ => let ⟨i'', L'', hi', hs', k'⟩ := hk v i' L' w' hi hs k; ⟨v, i'', L'', he, hi.trans hi', hs', k'⟩
theorem FnS.frame {P : Program} {g : FuncId} {args : List Value} {i : Imm} {L L0 : SH} {K : Value → Imm → SH → Prop} (hp : L.Perm L0) (h : FnS P g args i L0 K) : FnS P g args i L K :=
 fun w hw => h w (hw.perm hp)
end Go.Eng
namespace Go.Eng
open Go
section
variable {P : Program} {all : List Oper} {n : Nat} {r : List Oper} {f : Fr} {i : Imm} {L : SH} {K : Fr → Imm → SH → Prop} {dst : Option Nat} {ty : TypeId} {pos : String} {aft : Array Edge} {gd : Option (Nat × Bool)}
 {t t2 : Nat} {x y : Operand} {a b : Int} {k : IntKind} {p q : ByteArray}
theorem RS.ifLss (hx : ev n f x = .int k a) (hy : ev n f y = .int k b) (hg : gok n f all ⟨dst, .binOp .lss t x y t2, ty, pos, aft, gd⟩ = true)
 (hT : a < b → RS P all n r (updO f dst (.bool true)) i L K) (hF : b ≤ a → RS P all n r (updO f dst (.bool false)) i L K) : RS P all n (⟨dst, .binOp .lss t x y t2, ty, pos, aft, gd⟩ :: r) f i L K := by
 by_cases h : a < b
 · exact RS.pv (PV.lssT hx hy h) hg (hT h)
 · exact RS.pv (PV.lssF hx hy (by omega)) hg (hF (by omega))
theorem RS.ifLeq (hx : ev n f x = .int k a) (hy : ev n f y = .int k b) (hg : gok n f all ⟨dst, .binOp .leq t x y t2, ty, pos, aft, gd⟩ = true)
 (hT : a ≤ b → RS P all n r (updO f dst (.bool true)) i L K) (hF : b < a → RS P all n r (updO f dst (.bool false)) i L K) : RS P all n (⟨dst, .binOp .leq t x y t2, ty, pos, aft, gd⟩ :: r) f i L K := by
 by_cases h : a ≤ b
 · exact RS.pv (PV.leqT hx hy h) hg (hT h)
 · exact RS.pv (PV.leqF hx hy (by omega)) hg (hF (by omega))
theorem RS.ifGtr (hx : ev n f x = .int k a) (hy : ev n f y = .int k b) (hg : gok n f all ⟨dst, .binOp .gtr t x y t2, ty, pos, aft, gd⟩ = true)
 (hT : b < a → RS P all n r (updO f dst (.bool true)) i L K) (hF : a ≤ b → RS P all n r (updO f dst (.bool false)) i L K) : RS P all n (⟨dst, .binOp .gtr t x y t2, ty, pos, aft, gd⟩ :: r) f i L K := by
 by_cases h : b < a
 · exact RS.pv (PV.gtrT hx hy h) hg (hT h)
 · exact RS.pv (PV.gtrF hx hy (by omega)) hg (hF (by omega))
theorem RS.ifGeq (hx : ev n f x = .int k a) (hy : ev n f y = .int k b) (hg : gok n f all ⟨dst, .binOp .geq t x y t2, ty, pos, aft, gd⟩ = true)
 (hT : b ≤ a → RS P all n r (updO f dst (.bool true)) i L K) (hF : a < b → RS P all n r (updO f dst (.bool false)) i L K) : RS P all n (⟨dst, .binOp .geq t x y t2, ty, pos, aft, gd⟩ :: r) f i L K := by
 by_cases h : b ≤ a
 · exact RS.pv (PV.geqT hx hy h) hg (hT h)
 · exact RS.pv (PV.geqF hx hy (by omega)) hg (hF (by omega))
theorem RS.ifEql (hx : ev n f x = .int k a) (hy : ev n f y = .int k b) (hg : gok n f all ⟨dst, .binOp .eql t x y t2, ty, pos, aft, gd⟩ = true)
 (hT : a = b → RS P all n r (updO f dst (.bool true)) i L K) (hF : a ≠ b → RS P all n r (updO f dst (.bool false)) i L K) : RS P all n (⟨dst, .binOp .eql t x y t2, ty, pos, aft, gd⟩ :: r) f i L K := by
 by_cases h : a = b
 · exact RS.pv (PV.eqlT hx hy h) hg (hT h)
 · exact RS.pv (PV.eqlF hx hy h) hg (hF h)
theorem RS.ifNeq (hx : ev n f x = .int k a) (hy : ev n f y = .int k b) (hg : gok n f all ⟨dst, .binOp .neq t x y t2, ty, pos, aft, gd⟩ = true)
 (hT : a ≠ b → RS P all n r (updO f dst (.bool true)) i L K) (hF : a = b → RS P all n r (updO f dst (.bool false)) i L K) : RS P all n (⟨dst, .binOp .neq t x y t2, ty, pos, aft, gd⟩ :: r) f i L K := by
 by_cases h : a = b
 · exact RS.pv (PV.neqF hx hy h) hg (hF h)
 · exact RS.pv (PV.neqT hx hy h) hg (hT h)
theorem RS.ifSeql (hx : ev n f x = .string p) (hy : ev n f y = .string q) (hg : gok n f all ⟨dst, .binOp .eql t x y t2, ty, pos, aft, gd⟩ = true)
 (hT : p.toList = q.toList → RS P all n r (updO f dst (.bool true)) i L K) (hF : p.toList ≠ q.toList → RS P all n r (updO f dst (.bool false)) i L K) : RS P all n (⟨dst, .binOp .eql t x y t2, ty, pos, aft, gd⟩ :: r) f i L K := by
 by_cases h : p.toList = q.toList
 · exact RS.pv (PV.seqlT hx hy h) hg (hT h)
 · exact RS.pv (PV.seqlF hx hy h) hg (hF h)
theorem RS.ifSneq (hx : ev n f x = .string p) (hy : ev n f y = .string q) (hg : gok n f all ⟨dst, .binOp .neq t x y t2, ty, pos, aft, gd⟩ = true)
 (hT : p.toList ≠ q.toList → RS P all n r (updO f dst (.bool true)) i L K) (hF : p.toList = q.toList → RS P all n r (updO f dst (.bool false)) i L K) : RS P all n (⟨dst, .binOp .neq t x y t2, ty, pos, aft, gd⟩ :: r) f i L K := by
 by_cases h : p.toList = q.toList
 · exact RS.pv (PV.sneqF hx hy h) hg (hF h)
 · exact RS.pv (PV.sneqT hx hy h) hg (hT h)
end
end Go.Eng
namespace Go.Eng
open Go
abbrev Kap := Nat → Imm → Value → Prop
def updK (κ : Kap) : Option Nat → (Imm → Value → Prop) → Kap
 | some d, K => fun t => if t = d then K else κ t
 | none, _ => κ
def Mono (K : Imm → Value → Prop) : Prop := ∀ i i', Imm.le i i' → ∀ v, K i v → K i' v
def waits (all : List Oper) (j i : Nat) : Bool :=
 match all[j]? with
 | some o => o.after.toList.any fun e => Region.binds .any e && Nat.beq e.on i
 | none => false
def Ob (P : Program) (all : List Oper) (n : Nat) (i0 : Imm) (Ls : List SH) (lc : List Nat) (k : Nat) (o : Oper) (κ : Kap) (K : Imm → Value → Prop) : Prop :=
 ∀ i', i0.le i' → ∀ g : Fr, (∀ t ∈ o.looksAt all.toArray, κ t i' (g t)) →
  if gok n g all o = true then
   (k ∉ lc → ∀ (q : Nat) (L' : SH), Ls[q]? = some L' → (∀ (q' j : Nat), q' < q → lc[q']? = some j → waits all j k = false) → OpS P n o g i' L' fun v i'' L'' => L'' = L' ∧ K i'' v) ∧
   (∀ q, lc[q]? = some k → ∀ L' M', Ls[q]? = some L' → Ls[q + 1]? = some M' → OpS P n o g i' L' fun v i'' L'' => L'' = M' ∧ K i'' v)
  else K i' undef ∧ k ∉ lc
def RG0 (P : Program) (all : List Oper) (n : Nat) (i0 : Imm) (Ls : List SH) (lc : List Nat) (Kont : Kap → Prop) : List Nat → Kap → Prop
 | [], κ => Kont κ
 | k :: r, κ => ∃ o K, all[k]? = some o ∧ Mono K ∧ Ob P all n i0 Ls lc k o κ K ∧ RG0 P all n i0 Ls lc Kont r (updK κ o.dst K)
def dstIs (all : List Oper) (j t : Nat) : Bool :=
 match all[j]? with
 | some o => (match o.dst with | some d => Nat.beq d t | none => false)
 | none => false
def okOp (all : List Oper) (k : Nat) (before later : List Nat) (t1 : Option Nat) : Bool :=
 match all[k]? with
 | some o =>
   ((o.looksAt all.toArray).all fun t => (List.range all.length).all fun j => !dstIs all j t || (before.contains j && waits all k j) || !(before.contains j || later.contains j)) &&
   (match o.dst with
    | some d => !((o.looksAt all.toArray).contains d) && (later.all fun j => !dstIs all j d)
    | none => true) &&
   (o.after.toList.all fun e => !Region.binds .any e || before.contains e.on) &&
   !before.contains k &&
   (match t1 with
    | some t => waits all t k || later.any (fun j => waits all j k)
    | none => true)
 | none => false
def okHead (all : List Oper) (t1 : Option Nat) : List Nat → List Nat → Bool
 | _, [] => true
 | before, k :: later => okOp all k before later t1 && okHead all t1 (before ++ [k]) later
def okChain (all : List Oper) : List Nat → Bool
 | a :: b :: l => waits all b a && okChain all (b :: l)
 | _ => true
def okCover (all : List Oper) (head tail : List Nat) : Bool := (List.range all.length).all fun k => (head.contains k && !tail.contains k) || (!head.contains k && tail.contains k)
def seqI (ops : Array Oper) : List Nat → Array Bool → Bool
 | [], listed => (Region.ready .any ops listed).isEmpty
 | t :: ts, listed => decide (Region.ready .any ops listed = [t]) && seqI ops ts (listed.setIfInBounds t true)
def headArr (all : List Oper) (head : List Nat) : Array Bool := (Array.range all.length).map fun k => head.contains k
def rgOk (all : List Oper) (head tail lc : List Nat) : Bool :=
 okHead all tail.head? [] head && okChain all tail && okChain all lc && okCover all head tail && lc.all (head.contains ·) && seqI all.toArray tail (headArr all head)
section
variable {P : Program} {all : List Oper} {n : Nat} {i0 : Imm} {Ls : List SH} {lc : List Nat}
theorem waits_spec {j i : Nat} (h : waits all j i = true) : ∃ o, all[j]? = some o ∧ ∃ e ∈ o.after, Region.binds .any e = true ∧ e.on = i := by
 unfold waits at h
 split at h
 · rename_i o ho
   obtain ⟨e, he, hb⟩ := List.any_eq_true.1 h
   simp only [Bool.and_eq_true] at hb
   exact ⟨o, ho, e, by simpa using he, hb.1, Nat.eq_of_beq_eq_true hb.2⟩
 · cases h
theorem dstIs_of {j t : Nat} {o : Oper} (ho : all[j]? = some o) (hd : o.dst = some t) : dstIs all j t = true := by
 simp [dstIs, ho, hd]
theorem okHead_lt {t1 : Option Nat} : ∀ (r b : List Nat), okHead all t1 b r = true → ∀ x ∈ r, x < all.length := by
 intro r
 induction r with
 | nil => intro b _ x hx; cases hx
 | cons y r ih2 =>
   intro b hb x hx
   simp only [okHead, Bool.and_eq_true] at hb
   rcases List.mem_cons.1 hx with rfl | hx
   · have := hb.1
     unfold okOp at this
     split at this
     · rename_i hy; exact (List.getElem?_eq_some_iff.1 hy).1
     · cases this
   · exact ih2 _ hb.2 x hx
theorem okHead_notin {t1 : Option Nat} : ∀ (r b : List Nat), okHead all t1 b r = true → ∀ x ∈ r, x ∉ b := by
 intro r
 induction r with
 | nil => intro b _ x hx; cases hx
 | cons y r ih2 =>
   intro b hb x hx hxb
   simp only [okHead, Bool.and_eq_true] at hb
   rcases List.mem_cons.1 hx with rfl | hx
   · have := hb.1
     unfold okOp at this
     split at this
     · simp only [Bool.and_eq_true, Bool.not_eq_true'] at this
       have h6 := this.1.2
       simp [hxb] at h6
     · cases this
   · exact ih2 _ hb.2 x hx (List.mem_append_left _ hxb)
theorem RG0.table {Kont : Kap → Prop} {t1 : Option Nat} : ∀ (r before : List Nat) (κ : Kap), RG0 P all n i0 Ls lc Kont r κ → okHead all t1 before r = true → (∀ t, Mono (κ t)) →
 ∃ κ' : Kap, Kont κ' ∧ (∀ t, Mono (κ' t)) ∧ (∀ t, (∀ k ∈ r, dstIs all k t = false) → κ' t = κ t) ∧
  ∀ k ∈ r, ∃ o K, all[k]? = some o ∧ Mono K ∧ Ob P all n i0 Ls lc k o κ' K ∧ (∀ d, o.dst = some d → κ' d = K) := by
 intro r
 induction r with
 | nil =>
   intro before κ h _ hm
   exact ⟨κ, h, hm, fun _ _ => rfl, fun k hk => by cases hk⟩
 | cons k r ih =>
   intro before κ h hok hm
   obtain ⟨o, K, ho, hK, hob, hr⟩ := h
   simp only [okHead, Bool.and_eq_true] at hok
   have hm' : ∀ t, Mono (updK κ o.dst K t) := by
    intro t
    cases hd : o.dst with
    | none => simpa [updK] using hm t
    | some d =>
      simp only [updK]
      split
      · exact hK
      · exact hm t
   obtain ⟨κ', h1, h2, h3, h4⟩ := ih (before ++ [k]) _ hr hok.2 hm'
   have hop := hok.1
   simp only [okOp, ho, Bool.and_eq_true] at hop
   obtain ⟨⟨⟨⟨hlook, hdst⟩, _⟩, _⟩, _⟩ := hop
   refine ⟨κ', h1, h2, fun t ht => ?_, fun k' hk' => ?_⟩
   · rw [h3 t (fun k' hk' => ht k' (List.mem_cons_of_mem _ hk'))]
     cases hd : o.dst with
     | none => rfl
     | some d =>
       simp only [updK]
       rw [if_neg]
       rintro rfl
       have := ht k (List.mem_cons_self ..)
       rw [dstIs_of ho hd] at this; cases this
   · rcases List.mem_cons.1 hk' with rfl | hk'
     · refine ⟨o, K, ho, hK, fun i' hi g hg => hob i' hi g fun t ht => ?_, fun d hd => ?_⟩
       · have hkt := hg t ht
         have hne : ∀ k'' ∈ r, dstIs all k'' t = false := by
          intro k'' hk''
          have h5 := List.all_eq_true.1 (List.all_eq_true.1 hlook t ht) k'' (List.mem_range.2 (okHead_lt r _ hok.2 k'' hk''))
          cases hx : dstIs all k'' t with
          | false => rfl
          | true =>
            have hin : r.contains k'' = true := by simpa using hk''
            rw [hx, hin] at h5
            simp only [Bool.not_true, Bool.false_or, Bool.or_true, Bool.or_false, Bool.and_eq_true] at h5
            have hbef : k'' ∈ before := by simpa using h5.1
            exact absurd (List.mem_append_left _ hbef) (okHead_notin r _ hok.2 k'' hk'')
         rw [h3 t hne] at hkt
         cases hd : o.dst with
         | none => rw [hd] at hkt; exact hkt
         | some d =>
           rw [hd] at hkt hdst
           simp only [updK] at hkt
           simp only [Bool.and_eq_true, Bool.not_eq_true'] at hdst
           rw [if_neg] at hkt
           · exact hkt
           · rintro rfl
             have := hdst.1
             simp [ht] at this
       · rw [hd] at hdst h3
         simp only [Bool.and_eq_true, Bool.not_eq_true'] at hdst
         rw [h3 d (fun k'' hk'' => by simpa using List.all_eq_true.1 hdst.2 k'' hk'')]
         simp [updK]
     · exact h4 k' hk'
structure JJ (P : Program) (all : List Oper) (n : Nat) (ds : List Deferred) (i0 : Imm) (Ls : List SH) (lc head : List Nat) (κ : Kap) (listed : Array Bool) (a : Act) (w : World) : Prop where
 ex : ∃ (g : Fr) (i' : Imm) (m : Nat) (M : SH), a = ofD n ds g ∧ i0.le i' ∧ Ls[m]? = some M ∧ St i' M w ∧ (∀ (q k : Nat), lc[q]? = some k → (listed.getD k false = true ↔ q < m)) ∧
  ∀ t, (∀ k ∈ head, dstIs all k t = true → listed.getD k false = true) → κ t i' (g t)
theorem wpAny_of_seqI {F : Fence} {ops : Array Oper} {Q : Exit → Act → World → Prop} : ∀ (ts : List Nat) (listed : Array Bool) (os : List Oper) (a : Act) (w : World), ts.map (ops[·]?) = os.map some →
 seqI ops ts listed = true → wpR F P ops Q os a w → wpAnyIn F 0 P .any ops Q ts.length listed a w
 | [], listed, os, a, w, ho, hs, h => by
   cases os with
   | nil =>
     have h0 : Region.ready .any ops listed = [] := by simpa [seqI] using hs
     exact And.intro h0 h
   | cons _ _ => cases ho
 | t :: ts, listed, os, a, w, ho, hs, h => by
   cases os with
   | nil => cases ho
   | cons o os =>
     simp only [List.map_cons, List.cons.injEq] at ho
     simp only [seqI, Bool.and_eq_true, decide_eq_true_eq] at hs
     refine ⟨fun h0 => (by rw [hs.1] at h0; cases h0), fun j hj => ?_⟩
     rw [hs.1] at hj
     have : j = t := by simpa using hj
     subst this
     unfold wpOpIn
     simp only [ho.1]
     simp only [wpR] at h
     split at h
     · rename_i hw; rw [if_pos hw]; exact Oper.wpIn_mono (fun a w => wpAny_of_seqI ts _ os a w ho.2 hs.2) h
     · rename_i hw; rw [if_neg hw]; exact ⟨h.1, wpAny_of_seqI ts _ os _ w ho.2 hs.2 h.2⟩
theorem okHead_spec {t1 : Option Nat} : ∀ (r b : List Nat), okHead all t1 b r = true → ∀ (pre : List Nat) (k : Nat) (post : List Nat), r = pre ++ k :: post → okOp all k (b ++ pre) post t1 = true := by
 intro r
 induction r with
 | nil => intro b _ pre k post h; cases pre <;> cases h
 | cons y r ih =>
   intro b hb pre k post h
   simp only [okHead, Bool.and_eq_true] at hb
   cases pre with
   | nil => simp only [List.nil_append, List.cons.injEq] at h; obtain ⟨rfl, rfl⟩ := h; simpa using hb.1
   | cons z pre =>
     simp only [List.cons_append, List.cons.injEq] at h
     obtain ⟨rfl, h⟩ := h
     have := ih _ hb.2 pre k post h
     simpa using this
theorem okOp_pre {k : Nat} {b l : List Nat} {t1 : Option Nat} (h : okOp all k b l t1 = true) : ∃ o, all[k]? = some o ∧
 (∀ t ∈ o.looksAt all.toArray, ∀ j, j < all.length → j ∈ b ∨ j = k ∨ j ∈ l → dstIs all j t = true → waits all k j = true) ∧
 (∀ e ∈ o.after, Region.binds .any e = true → e.on ∈ b) ∧ (∀ t, t1 = some t → waits all t k = true ∨ ∃ j ∈ l, waits all j k = true) := by
 unfold okOp at h
 split at h
 · rename_i o ho
   simp only [Bool.and_eq_true] at h
   obtain ⟨⟨⟨⟨h1, h2⟩, h3⟩, _⟩, h5⟩ := h
   refine ⟨o, ho, fun t ht j hj hin hd => ?_, fun e he hb => ?_, fun t ht => ?_⟩
   · have := List.all_eq_true.1 (List.all_eq_true.1 h1 t ht) j (List.mem_range.2 hj)
     by_cases hjk : j = k
     · subst hjk
       exfalso
       unfold dstIs at hd
       simp only [ho] at hd
       cases hod : o.dst with
       | none => rw [hod] at hd; cases hd
       | some d =>
         rw [hod] at hd h2
         have : d = t := Nat.eq_of_beq_eq_true hd
         subst this
         simp [ht] at h2
     have hc : (b.contains j || l.contains j) = true := by
      rcases hin with h | h | h
      · simp [h]
      · exact absurd h hjk
      · simp [h]
     rw [hd, hc] at this
     simp only [Bool.not_true, Bool.false_or, Bool.or_false, Bool.and_eq_true] at this
     exact this.2
   · have := List.all_eq_true.1 h3 e (by simpa using he)
     rw [hb] at this
     simpa using this
   · subst ht
     simp only [Bool.or_eq_true, List.any_eq_true] at h5
     exact h5
 · cases h
theorem okChain_waits : ∀ (l : List Nat), okChain all l = true → ∀ (q a b : Nat), l[q]? = some a → l[q + 1]? = some b → waits all b a = true
 | [], _, q, a, b, h, _ => by cases h
 | [x], _, q, a, b, h, h' => by cases q <;> cases h'
 | x :: y :: l, hc, q, a, b, h, h' => by
   simp only [okChain, Bool.and_eq_true] at hc
   cases q with
   | zero => cases h; cases h'; exact hc.1
   | succ q => exact okChain_waits (y :: l) hc.2 q a b (by simpa using h) (by simpa using h')
theorem JJ.walk {F : Fence} (hF : Wd F) {ds : List Deferred} {head tail : List Nat} {κ : Kap} {Q : Exit → Act → World → Prop} {tops : List Oper} (hok : rgOk all head tail lc = true) (hlen : Ls.length = lc.length + 1)
 (htops : tail.map (all.toArray[·]?) = tops.map some)
 (hmono : ∀ t, Mono (κ t)) (hob : ∀ k ∈ head, ∃ o K, all[k]? = some o ∧ Mono K ∧ Ob P all n i0 Ls lc k o κ K ∧ (∀ d, o.dst = some d → κ d = K))
 (hend : ∀ g i' M w, i0.le i' → Ls[lc.length]? = some M → St i' M w → (∀ t, κ t i' (g t)) → wpR F P all.toArray Q tops (ofD n ds g) w) :
 ∀ (fuel : Nat) (listed : Array Bool) (a : Act) (w : World), listed.size = all.length → (∀ t ∈ tail, listed.getD t false = false) →
  (∀ k o, all[k]? = some o → listed.getD k false = true → ∀ e ∈ o.after, Region.binds .any e = true → listed.getD e.on false = true) →
  fuel = (head.filter fun k => !listed.getD k false).length + tail.length → JJ P all n ds i0 Ls lc head κ listed a w → wpAnyIn F 0 P .any all.toArray Q fuel listed a w := by
 simp only [rgOk, Bool.and_eq_true] at hok
 obtain ⟨⟨⟨⟨⟨hhead, hct⟩, hcl⟩, hcov⟩, hlc⟩, hseq⟩ := hok
 have hhl := okHead_lt _ _ hhead
 have cov : ∀ k, k < all.length → (k ∈ head ∧ k ∉ tail) ∨ (k ∉ head ∧ k ∈ tail) := by
  intro k hk
  have := List.all_eq_true.1 hcov k (List.mem_range.2 hk)
  simpa using this
 intro fuel
 induction fuel with
 | zero =>
   intro listed a w hsz htl hcl2 hf hJ
   have htn : tail = [] := List.length_eq_zero_iff.1 (by omega)
   have hall : ∀ k ∈ head, listed.getD k false = true := by
    intro k hk
    cases hx : listed.getD k false with
    | true => rfl
    | false =>
      have : k ∈ head.filter fun k => !listed.getD k false := List.mem_filter.2 ⟨hk, by simp [hx]⟩
      rw [List.length_eq_zero_iff.1 (show (head.filter fun k => !listed.getD k false).length = 0 by omega)] at this
      cases this
   have hL : listed = headArr all head := by
    apply Array.ext
    · simp [headArr, hsz]
    · intro j h1 h2
      have hj : j < all.length := by omega
      rcases cov j hj with ⟨h3, h4⟩ | ⟨h3, h4⟩
      · have := hall j h3
        simp [h1] at this
        simp [headArr, this, h3]
      · have := htl j h4
        simp [h1] at this
        simp [headArr, this, h3]
   obtain ⟨g, i', m, M, rfl, hi, hM, hs, hm, hκ⟩ := hJ.ex
   have hmM : m = lc.length := by
    have h1 : m < Ls.length := (List.getElem?_eq_some_iff.1 hM).1
    rcases Nat.lt_or_ge m lc.length with h | h
    · have h2 := hm m lc[m] (List.getElem?_eq_getElem h)
      have h3 := hall lc[m] (by simpa using List.all_eq_true.1 hlc lc[m] (List.getElem_mem h))
      have := h2.1 h3; omega
    · omega
   subst hmM
   rw [hL]
   subst htn
   exact wpAny_of_seqI [] _ tops _ _ htops hseq (hend g i' M w hi hM hs fun t => hκ t fun k hk _ => hall k hk)
 | succ fuel ih =>
   intro listed a w hsz htl hcl2 hf hJ
   by_cases hall : ∀ k ∈ head, listed.getD k false = true
   · have hL : listed = headArr all head := by
      apply Array.ext
      · simp [headArr, hsz]
      · intro j h1 h2
        have hj : j < all.length := by omega
        rcases cov j hj with ⟨h3, h4⟩ | ⟨h3, h4⟩
        · have := hall j h3
          simp [h1] at this
          simp [headArr, this, h3]
        · have := htl j h4
          simp [h1] at this
          simp [headArr, this, h3]
     obtain ⟨g, i', m, M, rfl, hi, hM, hs, hm, hκ⟩ := hJ.ex
     have hmM : m = lc.length := by
      have h1 : m < Ls.length := (List.getElem?_eq_some_iff.1 hM).1
      rcases Nat.lt_or_ge m lc.length with h | h
      · have h2 := hm m lc[m] (List.getElem?_eq_getElem h)
        have h3 := hall lc[m] (by simpa using List.all_eq_true.1 hlc lc[m] (List.getElem_mem h))
        have := h2.1 h3; omega
      · omega
     subst hmM
     have hfil : (head.filter fun k => !listed.getD k false).length = 0 := by
      rw [List.length_eq_zero_iff, List.filter_eq_nil_iff]
      intro k hk; simp only [hall k hk]; decide
     rw [show fuel + 1 = tail.length by omega, hL]
     exact wpAny_of_seqI tail _ tops _ _ htops hseq (hend g i' M w hi hM hs fun t => hκ t fun k hk _ => hall k hk)
   ·
    have hex : ∃ k, k ∈ head ∧ listed.getD k false = false := by
     rcases Classical.em (∃ k, k ∈ head ∧ listed.getD k false = false) with h | h
     · exact h
     · exact absurd (fun k hk => by cases hx : listed.getD k false with | true => rfl | false => exact absurd ⟨k, hk, hx⟩ h) hall
    have first : ∀ (r pre : List Nat), head = pre ++ r → (∀ k ∈ pre, listed.getD k false = true) → (∃ k ∈ r, listed.getD k false = false) → ∃ pre k post, head = pre ++ k :: post ∧ (∀ j ∈ pre, listed.getD j false = true) ∧ listed.getD k false = false := by
     intro r
     induction r with
     | nil => intro pre _ _ h; obtain ⟨k, hk, _⟩ := h; cases hk
     | cons y r ih2 =>
       intro pre hp hpre hx
       cases hy : listed.getD y false with
       | false => exact ⟨pre, y, r, hp, hpre, hy⟩
       | true =>
         refine ih2 (pre ++ [y]) (by simp [hp]) (fun k hk => ?_) ?_
         · rcases List.mem_append.1 hk with h | h
           · exact hpre k h
           · rw [List.mem_singleton.1 h]; exact hy
         · obtain ⟨k, hk, hkf⟩ := hx
           rcases List.mem_cons.1 hk with rfl | hk
           · rw [hy] at hkf; cases hkf
           · exact ⟨k, hk, hkf⟩
    have getDt : ∀ k, k < all.length → listed.getD k false = false → listed.getD k true = false := fun k hk h => getD_in (by omega) h
    have hne : Region.ready .any all.toArray listed ≠ [] := by
     obtain ⟨pre, k, post, hp, hpre, hk⟩ := first head [] rfl (fun _ h => by cases h) (by obtain ⟨k, h1, h2⟩ := hex; exact ⟨k, h1, h2⟩)
     obtain ⟨o, ho, _, hedge, _⟩ := okOp_pre (okHead_spec _ _ hhead pre k post hp)
     have hr : k ∈ Region.ready .any all.toArray listed := by
      refine mem_ready.2 ⟨getDt k (List.getElem?_eq_some_iff.1 ho).1 hk, o, by simpa using ho, fun e he hb => hpre _ (by simpa using hedge e he hb)⟩
     intro h0; rw [h0] at hr; cases hr
    refine ⟨fun h0 => absurd h0 hne, fun j hj => ?_⟩
    obtain ⟨hjun, oj, hoj, hpreds⟩ := mem_ready.1 hj
    have hoj' : all[j]? = some oj := by simpa using hoj
    have hjl : j < all.length := (List.getElem?_eq_some_iff.1 hoj').1
    have hjf : listed.getD j false = false := getD_both hjun
    rcases cov j hjl with ⟨hjh, hjt⟩ | ⟨hjh, hjt⟩
    ·
     obtain ⟨o, K, ho, hK, hO, hκd⟩ := hob j hjh
     have : oj = o := by rw [hoj'] at ho; exact Option.some.inj ho
     subst this
     obtain ⟨pre, post, hp⟩ := List.append_of_mem hjh
     obtain ⟨o', ho', hlooks, _, _⟩ := okOp_pre (okHead_spec _ _ hhead pre j post hp)
     have : o' = oj := by rw [hoj'] at ho'; exact (Option.some.inj ho').symm
     subst this
     obtain ⟨g, i', m, M, rfl, hi, hM, hs, hm, hκ⟩ := hJ.ex
     have hfacts : ∀ t ∈ o'.looksAt all.toArray, κ t i' (g t) := by
      intro t ht
      refine hκ t fun k hk hd => ?_
      have hw := hlooks t ht k (hhl k hk) (by rw [hp] at hk; simpa using hk) hd
      obtain ⟨o2, ho2, e, he, hb, hon⟩ := waits_spec hw
      have : o2 = o' := by rw [hoj'] at ho2; exact (Option.some.inj ho2).symm
      subst this
      rw [← hon]; exact hpreds e he hb
     have hob1 := hO i' hi g hfacts
     have hsz' : (listed.setIfInBounds j true).size = all.length := by simp [hsz]
     have htl' : ∀ t ∈ tail, (listed.setIfInBounds j true).getD t false = false := by
      intro t ht
      rw [getD_set_ne false (by rintro rfl; exact hjt ht)]; exact htl t ht
     have hjset : (listed.setIfInBounds j true).getD j false = true := by
      have : j < listed.size := by omega
      simp [this]
     have hcl' : ∀ k o, all[k]? = some o → (listed.setIfInBounds j true).getD k false = true → ∀ e ∈ o.after, Region.binds .any e = true → (listed.setIfInBounds j true).getD e.on false = true := by
      intro k o hk hl e he hb
      by_cases hjk : j = k
      · subst hjk
        have : o = o' := by rw [hoj'] at hk; exact (Option.some.inj hk).symm
        subst this
        exact getD_set_true (hpreds e he hb)
      · rw [getD_set_ne false hjk] at hl
        exact getD_set_true (hcl2 k o hk hl e he hb)
     have hfuel : fuel = (head.filter fun k => !(listed.setIfInBounds j true).getD k false).length + tail.length := by
      have hnd : (head.filter fun k => !listed.getD k false).length = (head.filter fun k => !(listed.setIfInBounds j true).getD k false).length + 1 := by
       have hjpre : j ∉ pre := by
        have hsp := okHead_spec _ _ hhead pre j post hp
        unfold okOp at hsp
        split at hsp
        · simp only [Bool.and_eq_true, Bool.not_eq_true'] at hsp
          have := hsp.1.2
          simpa using this
        · cases hsp
       have hjpost : j ∉ post := by
        intro hin
        obtain ⟨p1, p2, hpp⟩ := List.append_of_mem hin
        have hsp := okHead_spec _ _ hhead (pre ++ j :: p1) j p2 (by rw [hp, hpp]; simp)
        unfold okOp at hsp
        split at hsp
        · simp only [Bool.and_eq_true, Bool.not_eq_true'] at hsp
          have := hsp.1.2
          simp at this
        · cases hsp
       have same : ∀ l : List Nat, j ∉ l → (l.filter fun k => !(listed.setIfInBounds j true).getD k false) = l.filter fun k => !listed.getD k false := by
        intro l hl
        apply List.filter_congr
        intro k hk
        rw [getD_set_ne false (by rintro rfl; exact hl hk)]
       rw [hp, List.filter_append, List.filter_append, List.filter_cons, List.filter_cons, same pre hjpre, same post hjpost]
       simp only [hjf, hjset]
       simp
       omega
      omega
     have next : ∀ (v : Value) (i'' : Imm) (w' : World) (m' : Nat) (M' : SH), i'.le i'' → Ls[m']? = some M' → St i'' M' w' → (∀ (q k : Nat), lc[q]? = some k → ((listed.setIfInBounds j true).getD k false = true ↔ q < m')) → K i'' v →
      wpAnyIn F 0 P .any all.toArray Q fuel (listed.setIfInBounds j true) (ofD n ds (updO g o'.dst v)) w' := by
      intro v i'' w' m' M' hi' hM' hs' hm' hKv
      refine ih _ _ _ hsz' htl' hcl' hfuel ⟨_, i'', m', M', rfl, hi.trans hi', hM', hs', hm', fun t ht => ?_⟩
      cases hd : o'.dst with
      | none =>
        simp only [updO]
        refine hmono t _ _ hi' _ (hκ t fun k hk hdk => ?_)
        have := ht k hk hdk
        rw [getD_set_ne false] at this
        · exact this
        · rintro rfl
          simp [dstIs, hoj', hd] at hdk
      | some d =>
        simp only [updO]
        by_cases htd : t = d
        · subst htd; rw [upd_same, hκd t hd]; exact hKv
        · rw [upd_ne _ _ htd]
          refine hmono t _ _ hi' _ (hκ t fun k hk hdk => ?_)
          have := ht k hk hdk
          rw [getD_set_ne false] at this
          · exact this
          · rintro rfl
            simp only [dstIs, hoj', hd] at hdk
            exact htd (Nat.eq_of_beq_eq_true hdk).symm
     unfold wpOpIn
     simp only [hoj]
     rw [gok_eq]
     by_cases hgk : gok n g all o' = true
     · rw [if_pos hgk] at hob1 ⊢
       by_cases hjlc : j ∈ lc
       · obtain ⟨q, hq⟩ := List.mem_iff_getElem?.1 hjlc
         have hql : q < lc.length := (List.getElem?_eq_some_iff.1 hq).1
         have hqm : q = m := by
          have h1 : ¬ q < m := fun h => by have := (hm q j hq).2 h; rw [hjf] at this; cases this
          have h2 : ¬ m < q := by
           intro h
           have hq1l : q - 1 < lc.length := by omega
           have hq1 : lc[q - 1]? = some lc[q - 1] := List.getElem?_eq_getElem hq1l
           have hw := okChain_waits _ hcl (q - 1) lc[q - 1] j hq1 (by rw [show q - 1 + 1 = q by omega]; exact hq)
           obtain ⟨o2, ho2, e, he, hb, hon⟩ := waits_spec hw
           have : o2 = o' := by rw [hoj'] at ho2; exact (Option.some.inj ho2).symm
           subst this
           have := hpreds e he hb
           rw [hon] at this
           have := (hm (q - 1) _ hq1).1 this
           omega
          omega
         subst hqm
         have hq2 : Ls[q + 1]? = some Ls[q + 1] := List.getElem?_eq_getElem (by omega)
         refine (hob1.2 q hq M _ hM hq2).use hF ds w hs _ _ fun v i'' L'' w' hi' hs' ⟨hL'', hKv⟩ => ?_
         subst hL''
         refine next v i'' w' (q + 1) _ hi' hq2 hs' (fun q' k' hq' => ?_) hKv
         by_cases hkj : j = k'
         · subst hkj
           have : q' = q := by
            rcases Nat.lt_trichotomy q' q with h | h | h
            · exact absurd ((hm q' j hq').2 h) (by rw [hjf]; decide)
            · exact h
            ·
             exact absurd h (by
              intro h
              have hq1l : q' - 1 < lc.length := by have := (List.getElem?_eq_some_iff.1 hq').1; omega
              have hq1 : lc[q' - 1]? = some lc[q' - 1] := List.getElem?_eq_getElem hq1l
              have hw := okChain_waits _ hcl (q' - 1) lc[q' - 1] j hq1 (by rw [show q' - 1 + 1 = q' by omega]; exact hq')
              obtain ⟨o2, ho2, e, he, hb, hon⟩ := waits_spec hw
              have : o2 = o' := by rw [hoj'] at ho2; exact (Option.some.inj ho2).symm
              subst this
              have := hpreds e he hb
              rw [hon] at this
              have := (hm (q' - 1) _ hq1).1 this
              omega)
           subst this
           exact ⟨fun _ => by omega, fun _ => hjset⟩
         · rw [getD_set_ne false hkj, hm q' k' hq']
           constructor
           · intro h; omega
           · intro h
             have : q' ≠ q := by rintro rfl; rw [hq] at hq'; exact hkj (Option.some.inj hq')
             omega
       · refine (hob1.1 hjlc m M hM (fun q' x hq' hx => by
          cases hw : waits all x j with
          | false => rfl
          | true =>
            obtain ⟨ox, hox, e, he, hb, hon⟩ := waits_spec hw
            have := hcl2 x ox hox ((hm q' x hx).2 hq') e he hb
            rw [hon, hjf] at this
            cases this)).use hF ds w hs _ _ fun v i'' L'' w' hi' hs' ⟨hL'', hKv⟩ => ?_
         subst hL''
         refine next v i'' w' m _ hi' hM hs' (fun q' k' hq' => ?_) hKv
         have : j ≠ k' := by rintro rfl; exact hjlc (List.mem_of_getElem? hq')
         rw [getD_set_ne false this]
         exact hm q' k' hq'
     · rw [if_neg hgk] at hob1 ⊢
       rw [ofD_put]
       refine ⟨fun f' _ => hF.fn f', next undef i' w m M (Imm.le.refl i') hM hs (fun q' k' hq' => ?_) hob1.1⟩
       have : j ≠ k' := by rintro rfl; exact hob1.2 (List.mem_of_getElem? hq')
       rw [getD_set_ne false this]
       exact hm q' k' hq'
    ·
     exfalso
     obtain ⟨q, hq⟩ := List.mem_iff_getElem?.1 hjt
     cases q with
     | succ q =>
       have hqt : q < tail.length := by have := (List.getElem?_eq_some_iff.1 hq).1; omega
       have hq1 : tail[q]? = some tail[q] := List.getElem?_eq_getElem hqt
       have hw := okChain_waits _ hct q tail[q] j hq1 hq
       obtain ⟨o2, ho2, e, he, hb, hon⟩ := waits_spec hw
       have : o2 = oj := by rw [hoj'] at ho2; exact (Option.some.inj ho2).symm
       subst this
       have h1 := hpreds e he hb
       rw [hon, htl tail[q] (List.mem_of_getElem? hq1)] at h1
       cases h1
     | zero =>
       have ht1 : tail.head? = some j := by rw [List.head?_eq_getElem?]; exact hq
       have all1 : ∀ (d : Nat) (pre : List Nat) (k : Nat) (post : List Nat), head = pre ++ k :: post → post.length = d → listed.getD k false = true := by
        intro d
        induction d using Nat.strongRecOn with
        | _ d ih3 =>
          intro pre k post hp hd
          obtain ⟨o, ho, _, _, h5⟩ := okOp_pre (okHead_spec _ _ hhead pre k post hp)
          rcases h5 j ht1 with hw | ⟨k2, hk2, hw⟩
          · obtain ⟨o2, ho2, e, he, hb, hon⟩ := waits_spec hw
            have : o2 = oj := by rw [hoj'] at ho2; exact (Option.some.inj ho2).symm
            subst this
            rw [← hon]; exact hpreds e he hb
          · obtain ⟨p1, p2, hpp⟩ := List.append_of_mem hk2
            have h6 := ih3 p2.length (by rw [← hd, hpp]; simp; omega) (pre ++ k :: p1) k2 p2 (by rw [hp, hpp]; simp) rfl
            obtain ⟨o2, ho2, e, he, hb, hon⟩ := waits_spec hw
            rw [← hon]; exact hcl2 k2 o2 ho2 h6 e he hb
       obtain ⟨k, hk, hkf⟩ := hex
       obtain ⟨pre, post, hp⟩ := List.append_of_mem hk
       have := all1 post.length pre k post hp rfl
       rw [hkf] at this; cases this
end
def lookF : List (Nat × (Imm → Value → Prop)) → Nat → Option (Imm → Value → Prop)
 | [], _ => none
 | (s, K) :: F, t => bif Nat.beq t s then some K else lookF F t
def kap (f : Fr) (F : List (Nat × (Imm → Value → Prop))) : Kap := fun t i v =>
 match lookF F t with
 | some K => K i v
 | none => v = f t
@[irreducible] def GS (P : Program) (all : List Oper) (n : Nat) (i0 : Imm) (Ls : List SH) (lc : List Nat) (Kont : Kap → Prop) (r : List Nat) (f : Fr) (F : List (Nat × (Imm → Value → Prop))) : Prop :=
 RG0 P all n i0 Ls lc Kont r (kap f F)
def kq : List (Nat × (Imm → Value → Prop)) → Fr → Imm → (Fr → Prop) → Prop
 | [], f, _, R => R f
 | (t, K) :: F, f, i, R => ∀ v, K i v → kq F (upd f t v) i R
def nodupF : List (Nat × (Imm → Value → Prop)) → Bool
 | [] => true
 | (t, _) :: F => (lookF F t).isNone && nodupF F
theorem kq_use : ∀ (F : List (Nat × (Imm → Value → Prop))) (f g : Fr) (i : Imm) (R : Fr → Prop), nodupF F = true → kq F f i R → (∀ t, kap f F t i (g t)) → R g
 | [], f, g, i, R, _, h, hg => by
   have : g = f := funext fun t => hg t
   rw [this]; exact h
 | (t, K) :: F, f, g, i, R, hn, h, hg => by
   simp only [nodupF, Bool.and_eq_true] at hn
   have ht := hg t
   have hb : Nat.beq t t = true := Nat.beq_refl t
   simp only [kap, lookF, hb, cond_true] at ht
   refine kq_use F (upd f t (g t)) g i R hn.2 (h (g t) ht) fun s => ?_
   have hs := hg s
   simp only [kap, lookF] at hs ⊢
   by_cases e : s = t
   · subst e
     cases hl : lookF F s with
     | none => simp [upd_same]
     | some K' => rw [hl] at hn; exact absurd hn.1 (by simp)
   · have hb2 : Nat.beq s t = false := by
      cases hx : Nat.beq s t with
      | true => exact absurd (Nat.eq_of_beq_eq_true hx) e
      | false => rfl
     simp only [hb2, cond_false] at hs
     cases hl : lookF F s with
     | none => rw [hl] at hs; simp only at hs ⊢; rw [upd_ne _ _ e]; exact hs
     | some K' => rw [hl] at hs; exact hs
section
variable {P : Program} {all : List Oper} {n : Nat} {i0 : Imm} {Ls : List SH} {lc : List Nat} {Kont : Kap → Prop} {f : Fr} {F : List (Nat × (Imm → Value → Prop))} {r : List Nat} {k : Nat}
theorem kap_mono (hF : ∀ p ∈ F, Mono p.2) (t : Nat) : Mono (kap f F t) := by
 intro i i' hi v hv
 unfold kap at *
 have : ∀ (F : List (Nat × (Imm → Value → Prop))) K, (∀ p ∈ F, Mono p.2) → lookF F t = some K → Mono K := by
  intro F
  induction F with
  | nil => intro K _ h; cases h
  | cons p F ih =>
    intro K h1 h2
    obtain ⟨s, K'⟩ := p
    simp only [lookF] at h2
    cases hx : Nat.beq t s with
    | true => rw [hx] at h2; cases h2; exact h1 (s, K) (List.mem_cons_self ..)
    | false => rw [hx] at h2; exact ih K (fun p hp => h1 p (List.mem_cons_of_mem _ hp)) h2
 split at hv
 · rename_i K hK; exact this F K hF hK i i' hi v hv
 · exact hv
theorem CS.draw {id : Nat} {i : Imm} {L : SH} {Q : Ex → Fr → Imm → SH → Prop} (head tail lc : List Nat) (Ls : List SH) (hm : P.follows .mixedOrders = true) (hok : rgOk all head tail lc = true) (hlen : Ls.length = lc.length + 1) (h0 : Ls[0]? = some L)
 (tops : List Oper) (htops : tail.map (all.toArray[·]?) = tops.map some)
 (h : GS P all n i Ls lc (fun κ => ∀ g i' M, i.le i' → Ls[lc.length]? = some M → (∀ t, κ t i' (g t)) → RS P all n tops g i' M fun f' i' L' => Q .normal f' i' L') head f []) : CS P n (.region id all.toArray true) f i L Q := by
 unfold CS
 intro Fc hFc ds w hw R hR
 refine wpIn_region_any hm ?_
 unfold GS at h
 have hhead : okHead all tail.head? [] head = true := by
  simp only [rgOk, Bool.and_eq_true] at hok
  exact hok.1.1.1.1.1
 obtain ⟨κ, hK, hmo, hsame, hob⟩ := RG0.table head [] (kap f []) h hhead (fun t => kap_mono (fun p hp => by cases hp) t)
 have hrep : ∀ (m j : Nat), (Array.replicate m false).getD j false = false := getD_replicate_false
 have hsub : ∀ k ∈ lc, k ∈ head := by
  simp only [rgOk, Bool.and_eq_true] at hok
  intro k hk
  simpa using List.all_eq_true.1 hok.1.2 k hk
 have hcount : all.length = (head.filter fun k => !(Array.replicate all.length false).getD k false).length + tail.length := by
  have h1 : (head.filter fun k => !(Array.replicate all.length false).getD k false) = head := by
   rw [List.filter_eq_self]
   intro k _; simp only [hrep]; decide
  rw [h1]
  simp only [rgOk, Bool.and_eq_true] at hok
  obtain ⟨⟨⟨⟨⟨_, _⟩, _⟩, hcov⟩, _⟩, hseq⟩ := hok
  have htn : ∀ (ts : List Nat) (listed : Array Bool), seqI all.toArray ts listed = true → ts.Nodup ∧ ∀ t ∈ ts, t < all.length ∧ listed.getD t true = false := by
   intro ts
   induction ts with
   | nil => intro _ _; exact ⟨List.nodup_nil, fun t ht => by cases ht⟩
   | cons t ts ih =>
     intro listed hs
     simp only [seqI, Bool.and_eq_true, decide_eq_true_eq] at hs
     have hr : t ∈ Region.ready .any all.toArray listed := by rw [hs.1]; simp
     obtain ⟨h2, o, ho, _⟩ := mem_ready.1 hr
     obtain ⟨i1, i2⟩ := ih _ hs.2
     have htl : t < all.length := by
      have := (Array.getElem?_eq_some_iff.1 ho).1; simpa using this
     refine ⟨List.nodup_cons.2 ⟨fun hin => ?_, i1⟩, fun x hx => ?_⟩
     · have := (i2 t hin).2
       by_cases hsz : t < listed.size
       · simp [hsz] at this
       · simp [hsz] at h2
     · rcases List.mem_cons.1 hx with rfl | hx
       · exact ⟨htl, h2⟩
       · refine ⟨(i2 x hx).1, ?_⟩
         have h3 := (i2 x hx).2
         by_cases hxt : t = x
         · subst hxt; exact h2
         · rwa [getD_set_ne true hxt] at h3
  have hhn : head.Nodup := by
   have : ∀ (r b : List Nat), okHead all tail.head? b r = true → r.Nodup := by
    intro r
    induction r with
    | nil => intro _ _; exact List.nodup_nil
    | cons x r ih =>
      intro b hb
      simp only [okHead, Bool.and_eq_true] at hb
      exact List.nodup_cons.2 ⟨fun hin => okHead_notin _ _ hb.2 x hin (by simp), ih _ hb.2⟩
   exact this head [] hhead
  obtain ⟨t1, t2⟩ := htn tail _ hseq
  have hperm : (head ++ tail).Perm (List.range all.length) := by
   refine (List.perm_ext_iff_of_nodup (List.nodup_append.2 ⟨hhn, t1, fun a ha b hb e => ?_⟩) List.nodup_range).2 fun k => ?_
   · subst e
     have := List.all_eq_true.1 hcov a (List.mem_range.2 (okHead_lt _ _ hhead a ha))
     simp [ha, hb] at this
   · rw [List.mem_append, List.mem_range]
     constructor
     · rintro (hk | hk)
       · exact okHead_lt _ _ hhead k hk
       · exact (t2 k hk).1
     · intro hk
       have := List.all_eq_true.1 hcov k (List.mem_range.2 hk)
       simp at this
       rcases this with h | h
       · exact .inl h.1
       · exact .inr h.2
  have := hperm.length_eq
  simp at this
  omega
 have := JJ.walk hFc (ds := ds) (Q := R) (tops := tops) hok hlen htops hmo hob (fun g i' M w' hi hM hs hκ => by
  have h2 := hK g i' M hi hM hκ
  unfold RS at h2
  exact h2 Fc hFc ds w' hs R fun f' i'' L' w'' hi' hs' q => hR .normal f' i'' L' w'' (hi.trans hi') hs' q) all.length (Array.replicate all.length false) (ofD n ds f) { w with drawn := w.drawn + 1 } (by simp) (fun t _ => hrep _ t)
  (fun k o _ hl => by rw [hrep] at hl; cases hl) hcount
  ⟨f, i, 0, L, rfl, Imm.le.refl i, h0, hw.drew, fun q k hq => by rw [hrep]; simp, fun t ht => by
   rw [hsame t (fun k hk => by
    cases hx : dstIs all k t with
    | false => rfl
    | true => have := ht k hk hx; rw [hrep] at this; cases this)]
   rfl⟩
 simpa using this
def noSel (o : Oper) : Bool := match o.op with | .select _ _ => false | _ => true
theorem noSel_spec {o : Oper} (h : noSel o = true) : ∀ cs b, o.op ≠ .select cs b := by
 intro cs b e; unfold noSel at h; rw [e] at h; cases h
theorem looks_op {all : List Oper} {o : Oper} {t : Nat} (h : .tmp t ∈ o.op.operands) : t ∈ o.looksAt all.toArray := by
 unfold Oper.looksAt
 refine List.mem_append_left _ (List.mem_filterMap.2 ⟨.tmp t, by simpa using h, rfl⟩)
theorem ev_congr {all : List Oper} {o : Oper} {f g : Fr} (h : ∀ t ∈ o.looksAt all.toArray, f t = g t) : ∀ x ∈ o.op.operands, ev n f x = ev n g x := by
 intro x hx
 cases x with
 | tmp t => simp only [ev]; rw [h t (looks_op hx)]
 | _ => rfl
theorem gok_congr {all : List Oper} {o : Oper} {f g : Fr} (h : ∀ t ∈ o.looksAt all.toArray, f t = g t) : gok n f all o = gok n g all o := by
 unfold gok gv
 unfold Oper.looksAt at h
 cases hg : o.guard with
 | none => rfl
 | some p =>
   obtain ⟨j, want⟩ := p
   simp only [hg] at h
   cases hd : (all[j]?).bind (·.dst) with
   | none => simp only [hd]
   | some d =>
     have : f d = g d := h d (List.mem_append_right _ (by simp [hd]))
     simp only [hd, this]
theorem GS.genE {o : Oper} {F' : List (Nat × (Imm → Value → Prop))} {f' : Fr} (K : Imm → Value → Prop) (hmono : Mono K) (ho : all[k]? = some o)
 (hob : ∀ i', i0.le i' → ∀ g : Fr, (∀ t ∈ o.looksAt all.toArray, kap f F t i' (g t)) → gok n g all o = true ∧
  (k ∉ lc → ∀ (q : Nat) (L' : SH), Ls[q]? = some L' → (∀ (q' j : Nat), q' < q → lc[q']? = some j → waits all j k = false) → OpS P n o g i' L' fun v i'' L'' => L'' = L' ∧ K i'' v) ∧
  (∀ q, lc[q]? = some k → ∀ L' M', Ls[q]? = some L' → Ls[q + 1]? = some M' → OpS P n o g i' L' fun v i'' L'' => L'' = M' ∧ K i'' v))
 (hk : updK (kap f F) o.dst K = kap f' F') (h : GS P all n i0 Ls lc Kont r f' F') : GS P all n i0 Ls lc Kont (k :: r) f F := by
 unfold GS at *
 refine ⟨o, K, ho, hmono, fun i' hi g hg => ?_, by rw [hk]; exact h⟩
 obtain ⟨h1, h2, h3⟩ := hob i' hi g hg
 rw [if_pos h1]
 exact ⟨h2, h3⟩
theorem GS.gen {o : Oper} {F' : List (Nat × (Imm → Value → Prop))} {f' : Fr} (K : Imm → Value → Prop) (hmono : Mono K) (ho : all[k]? = some o)
 (hob : ∀ i', i0.le i' → ∀ g : Fr, (∀ t ∈ o.looksAt all.toArray, kap f F t i' (g t)) → gok n g all o = true ∧
  (k ∉ lc → ∀ L' ∈ Ls, OpS P n o g i' L' fun v i'' L'' => L'' = L' ∧ K i'' v) ∧
  (∀ q, lc[q]? = some k → ∀ L' M', Ls[q]? = some L' → Ls[q + 1]? = some M' → OpS P n o g i' L' fun v i'' L'' => L'' = M' ∧ K i'' v))
 (hk : updK (kap f F) o.dst K = kap f' F') (h : GS P all n i0 Ls lc Kont r f' F') : GS P all n i0 Ls lc Kont (k :: r) f F := by
 exact GS.genE K hmono ho (fun i' hi g hg => ⟨(hob i' hi g hg).1, fun hn _ L' hL' _ => (hob i' hi g hg).2.1 hn L' (List.mem_of_getElem? hL'), (hob i' hi g hg).2.2⟩) hk h
theorem updK_fix {d : Option Nat} {v : Value} (hd : (match d with | some d => (lookF F d).isNone | none => true) = true) : updK (kap f F) d (fun _ u => u = v) = kap (updO f d v) F := by
 cases d with
 | none => rfl
 | some d =>
   funext t
   simp only [updK, updO]
   by_cases e : t = d
   · subst e
     simp only [if_true]
     funext i u
     simp only [kap]
     cases hl : lookF F t with
     | none => simp [upd_same]
     | some K => simp only [hl] at hd; cases hd
   · rw [if_neg e]
     funext i u
     simp only [kap]
     cases hl : lookF F t with
     | none => simp only; rw [upd_ne _ _ e]
     | some K => rfl
theorem updK_fact {d : Nat} {K : Imm → Value → Prop} : updK (kap f F) (some d) K = kap f ((d, K) :: F) := by
 funext t
 simp only [updK]
 by_cases e : t = d
 · subst e
   funext i u
   simp [kap, lookF]
 · rw [if_neg e]
   have hb : Nat.beq t d = false := by
    cases hx : Nat.beq t d with
    | true => exact absurd (Nat.eq_of_beq_eq_true hx) e
    | false => rfl
   funext i u
   simp [kap, lookF, hb]
def freeOf (F : List (Nat × (Imm → Value → Prop))) (l : List Nat) : Bool := l.all fun t => (lookF F t).isNone
theorem free_eq {l : List Nat} {g : Fr} {i' : Imm} (hfr : freeOf F l = true) (hg : ∀ t ∈ l, kap f F t i' (g t)) : ∀ t ∈ l, f t = g t := by
 intro t ht
 have h1 := List.all_eq_true.1 hfr t ht
 have h2 := hg t ht
 unfold kap at h2
 cases hl : lookF F t with
 | none => rw [hl] at h2; exact h2.symm
 | some K => rw [hl] at h1; cases h1
def dstFree (F : List (Nat × (Imm → Value → Prop))) (d : Option Nat) : Bool := match d with | some d => (lookF F d).isNone | none => true
theorem GS.fix {o : Oper} {v : Value} (ho : all[k]? = some o) (hs : noSel o = true) (hfr : freeOf F (o.looksAt all.toArray) = true) (hd : dstFree F o.dst = true) (hg : gok n f all o = true) (hlc : lc.contains k = false)
 (hv : ∀ i', i0.le i' → ∀ L' ∈ Ls, LV P n f i' L' o v) (h : GS P all n i0 Ls lc Kont r (updO f o.dst v) F) : GS P all n i0 Ls lc Kont (k :: r) f F := by
 refine GS.gen (fun _ u => u = v) (fun _ _ _ _ h => h) ho (fun i' hi g hgg => ?_) (updK_fix hd) h
 have heq := free_eq hfr hgg
 have hnot : k ∉ lc := by intro hin; have : lc.contains k = true := by simpa using hin
                          rw [this] at hlc; cases hlc
 refine ⟨by rw [← gok_congr heq]; exact hg, fun _ L' hL' => ?_, fun q hq => absurd (List.mem_of_getElem? hq) hnot⟩
 refine OpS.congr (noSel_spec hs) (ev_congr heq) (OpS.value (v := v) (fun w hw => ?_) ⟨rfl, rfl⟩)
 have := hv i' hi L' hL'
 unfold LV at this
 exact this w hw
theorem GS.pv {dst : Option Nat} {op : Op} {ty : TypeId} {pos : String} {aft : Array Edge} {gd : Option (Nat × Bool)} {v : Value} (hv : PV P n f ⟨dst, op, ty, pos, aft, gd⟩ v) (ho : all[k]? = some ⟨dst, op, ty, pos, aft, gd⟩) (hs : noSel ⟨dst, op, ty, pos, aft, gd⟩ = true)
 (hfr : freeOf F (Oper.looksAt all.toArray ⟨dst, op, ty, pos, aft, gd⟩) = true) (hd : dstFree F dst = true) (hg : gok n f all ⟨dst, op, ty, pos, aft, gd⟩ = true) (hlc : lc.contains k = false)
 (h : GS P all n i0 Ls lc Kont r (updO f dst v) F) : GS P all n i0 Ls lc Kont (k :: r) f F :=
 GS.fix ho hs hfr hd hg hlc (fun i' _ L' _ => by unfold LV; unfold PV at hv; exact fun w _ => hv w) h
theorem GS.lv {L : SH} {dst : Option Nat} {op : Op} {ty : TypeId} {pos : String} {aft : Array Edge} {gd : Option (Nat × Bool)} {v : Value} (hv : ∀ i', i0.le i' → LV P n f i' L ⟨dst, op, ty, pos, aft, gd⟩ v) (ho : all[k]? = some ⟨dst, op, ty, pos, aft, gd⟩) (hs : noSel ⟨dst, op, ty, pos, aft, gd⟩ = true)
 (hfr : freeOf F (Oper.looksAt all.toArray ⟨dst, op, ty, pos, aft, gd⟩) = true) (hd : dstFree F dst = true) (hg : gok n f all ⟨dst, op, ty, pos, aft, gd⟩ = true) (hlc : lc.contains k = false)
 (h : GS P all n i0 [L] lc Kont r (updO f dst v) F) : GS P all n i0 [L] lc Kont (k :: r) f F :=
 GS.fix ho hs hfr hd hg hlc (fun i' hi L' hL' => by rw [List.mem_singleton.1 hL']; exact hv i' hi) h
def kqs (F : List (Nat × (Imm → Value → Prop))) : List Nat → Fr → Imm → (Fr → Prop) → Prop
 | [], f, _, R => R f
 | t :: ts, f, i, R => match lookF F t with
   | some K => ∀ v, K i v → kqs F ts (upd f t v) i R
   | none => kqs F ts f i R
theorem kqs_use : ∀ (ts : List Nat) (f0 g : Fr) (i : Imm) (R : Fr → Prop), kqs F ts f0 i R → (∀ t ∈ ts, kap f F t i (g t)) → ∃ f1 : Fr, R f1 ∧ (∀ t, (t ∈ ts ∧ (lookF F t).isSome = true → f1 t = g t) ∧ (t ∉ ts ∨ (lookF F t).isNone = true → f1 t = f0 t))
 | [], f0, g, i, R, h, _ => ⟨f0, h, fun t => ⟨fun h => (by cases h.1), fun _ => rfl⟩⟩
 | t :: ts, f0, g, i, R, h, hg => by
   simp only [kqs] at h
   split at h
   · rename_i K hK
     have ht := hg t (List.mem_cons_self ..)
     unfold kap at ht; rw [hK] at ht
     obtain ⟨f1, h1, h2⟩ := kqs_use ts (upd f0 t (g t)) g i R (h (g t) ht) fun s hs => hg s (List.mem_cons_of_mem _ hs)
     refine ⟨f1, h1, fun s => ⟨fun ⟨hs, hl⟩ => ?_, fun hs => ?_⟩⟩
     · by_cases hin : s ∈ ts
       · exact (h2 s).1 ⟨hin, hl⟩
       · rcases List.mem_cons.1 hs with rfl | hs
         · rw [(h2 s).2 (.inl hin), upd_same]
         · exact absurd hs hin
     · have hne : s ≠ t := by
        rintro rfl
        rcases hs with hs | hs
        · exact hs (List.mem_cons_self ..)
        · rw [hK] at hs; cases hs
       rw [(h2 s).2 (hs.imp (fun h h' => h (List.mem_cons_of_mem _ h')) id), upd_ne _ _ hne]
   · rename_i hK
     obtain ⟨f1, h1, h2⟩ := kqs_use ts f0 g i R h fun s hs => hg s (List.mem_cons_of_mem _ hs)
     refine ⟨f1, h1, fun s => ⟨fun ⟨hs, hl⟩ => ?_, fun hs => ?_⟩⟩
     · rcases List.mem_cons.1 hs with rfl | hs
       · rw [hK] at hl; cases hl
       · exact (h2 s).1 ⟨hs, hl⟩
     · exact (h2 s).2 (hs.imp (fun h h' => h (List.mem_cons_of_mem _ h')) id)
theorem kqs_eq {l : List Nat} {g : Fr} {i' : Imm} {R : Fr → Prop} (h : kqs F l f i' R) (hg : ∀ t ∈ l, kap f F t i' (g t)) : ∃ f1, R f1 ∧ ∀ t ∈ l, f1 t = g t := by
 obtain ⟨f1, h1, h2⟩ := kqs_use l f g i' R h hg
 refine ⟨f1, h1, fun t ht => ?_⟩
 cases hl : lookF F t with
 | some K => exact (h2 t).1 ⟨ht, by rw [hl]; rfl⟩
 | none =>
   rw [(h2 t).2 (.inr (by rw [hl]; rfl))]
   have := hg t ht
   unfold kap at this; rw [hl] at this; exact this.symm
theorem GS.done {i : Imm} {tops : List Oper} {K : Fr → Imm → SH → Prop} {M : SH} (hn : nodupF F = true) (hM : Ls[lc.length]? = some M)
 (h : ∀ i', i.le i' → kq F f i' fun f' => RS P all n tops f' i' M K) :
 GS P all n i Ls lc (fun κ => ∀ g i' M, i.le i' → Ls[lc.length]? = some M → (∀ t, κ t i' (g t)) → RS P all n tops g i' M K) [] f F := by
 unfold GS
 intro g i' M' hi hM' hg
 rw [hM] at hM'; cases hM'
 exact kq_use F f g i' _ hn (h i' hi) hg
end
end Go.Eng
namespace Go.Eng
open Go
section
variable {P : Program} {all : List Oper} {n : Nat} {i0 : Imm} {Ls : List SH} {lc : List Nat} {Kont : Kap → Prop} {f : Fr} {F : List (Nat × (Imm → Value → Prop))} {r : List Nat} {k : Nat} {dst : Option Nat} {ty : TypeId} {pos : String} {aft : Array Edge} {gd : Option (Nat × Bool)}
 {t t2 : Nat} {x y : Operand} {a b : Int} {kd : IntKind} {p q : ByteArray}
end
end Go.Eng
namespace Go.Eng
open Go
def getAll (all : List Oper) : List Nat → Option (List Oper)
 | [] => some []
 | t :: ts => match all[t]? with
   | some o => (match getAll all ts with | some r => some (o :: r) | none => none)
   | none => none
theorem getAll_spec {all : List Oper} : ∀ (ts : List Nat) (r : List Oper), getAll all ts = some r → ts.map (all.toArray[·]?) = r.map some
 | [], r, h => by cases h; rfl
 | t :: ts, r, h => by
   simp only [getAll] at h
   split at h
   · rename_i o ho
     split at h
     · rename_i r' hr
       cases h
       simp [ho]
       simpa using getAll_spec ts r' hr
     · cases h
   · cases h
section
variable {P : Program} {all : List Oper} {n : Nat} {f : Fr}
theorem CS.draw0 {id : Nat} {i : Imm} {L : SH} {Q : Ex → Fr → Imm → SH → Prop} {tops : List Oper} (hm : P.follows .mixedOrders = true) (head tail : List Nat) (hok : rgOk all head tail [] = true) (htops : getAll all tail = some tops)
 (h : GS P all n i [L] [] (fun κ => ∀ g i' M, i.le i' → [L][([] : List Nat).length]? = some M → (∀ t, κ t i' (g t)) → RS P all n tops g i' M fun f' i' L' => Q .normal f' i' L') head f []) : CS P n (.region id all.toArray true) f i L Q :=
 CS.draw head tail [] [L] hm hok rfl rfl tops (getAll_spec tail tops htops) h
end
theorem setX_some {α : Type} : ∀ (l : List α) (k : Nat) (v x : α), l[k]? = some x → setX l k v = some (l.set k v)
 | [], k, v, x, h => by cases h
 | _ :: l, 0, v, x, h => rfl
 | a :: l, k + 1, v, x, h => by
   simp only [setX, setX_some l k v x (by simpa using h), List.set_cons_succ]
end Go.Eng
namespace Go.Eng
open Go
theorem run_bind' {P : Program} {α β : Type} (x : Sem α) (f : α → Sem β) (w w' : World) (a : α) (h : x.run P w = .ok a w') : (x >>= f).run P w = (f a).run P w' := by
 simp [h]
theorem run_mapM_list {P : Program} {α β : Type} (g : α → Sem β) (h : α → β) : ∀ (l : List α), (∀ a ∈ l, ∀ w, (g a).run P w = .ok (h a) w) → ∀ w, (l.mapM g).run P w = .ok (l.map h) w
 | [], _, w => by simp
 | a :: l, hg, w => by
   have h1 := hg a (List.mem_cons_self ..) w
   have h2 := run_mapM_list g h l (fun b hb => hg b (List.mem_cons_of_mem _ hb)) w
   simp [List.mapM_cons, h1, h2]
theorem run_mapM {P : Program} {α β : Type} (g : α → Sem β) (h : α → β) (l : Array α) (hg : ∀ a ∈ l, ∀ w, (g a).run P w = .ok (h a) w) (w : World) : (l.mapM g).run P w = .ok (l.map h) w := by
 rw [Array.mapM_eq_mapM_toList]
 have := run_mapM_list (P := P) g h l.toList (fun a ha => hg a (by simpa using ha)) w
 simp [this]
 exact Array.ext' (by simp)
def evParts (n : Nat) (f : Fr) : List (Nat × Operand) → Option (List (Nat × List Value))
 | [] => some []
 | (i, x) :: l => match cellsL (ev n f x) with
   | some vs => (match evParts n f l with | some r => some ((i, vs) :: r) | none => none)
   | none => none
def bld (T : Tab) (n : Nat) (f : Fr) (t : Nat) (parts : List (Nat × Operand)) : Option (List Value) :=
 match tget T t with
 | some ⟨.struct fs, _, _, zero⟩ => bif fs.toList.all (fun fd => (tget T fd.type).isSome) then (match evParts n f parts with | some ps => buildF fs T zero ps | none => none) else none
 | _ => none
section
variable {P : Program} {n : Nat} {f : Fr} {i : Imm} {L : SH} {dst : Option Nat} {ty : TypeId} {pos : String} {aft : Array Edge} {gd : Option (Nat × Bool)} {v : Value} {T : Tab}
theorem fold_put : ∀ (vs cs : List Value) (off : Nat) (cs' : List Value), putAt cs off vs = some cs' →
 (vs.toArray.zipIdx.foldl (fun (a : Array Value) (p : Value × Nat) => a.setIfInBounds (off + p.2) p.1) cs.toArray) = cs'.toArray := by
 intro vs cs off cs' h
 have key : ∀ (vs cs : List Value) (off k : Nat) (cs' : List Value), putAt cs (off + k) vs = some cs' →
  ((vs.zipIdx k).foldl (fun (a : Array Value) (p : Value × Nat) => a.setIfInBounds (off + p.2) p.1) cs.toArray) = cs'.toArray := by
  intro vs
  induction vs with
  | nil => intro cs off k cs' h; cases h; simp
  | cons v vs ih =>
    intro cs off k cs' h
    simp only [putAt] at h
    split at h
    · rename_i c1 h1
      have e := (setX_eq _ _ _ _ h1).1
      simp only [List.zipIdx_cons, List.foldl_cons]
      have := ih c1 off (k + 1) cs' (by rw [← Nat.add_assoc]; exact h)
      rw [← this, ← e]
      simp
    · cases h
 have := key vs cs off 0 cs' (by simpa using h)
 rw [← this]
 rw [← Array.foldl_toList]
 simp
theorem fill_buildF (hT : T.ok P) (fs : Array Field) (places : Array (Nat × Nat)) (hp : ∀ (k : Nat) (fd : Field) (e : TyE), fs[k]? = some fd → tget T fd.type = some e → places[k]? = some (fd.offset, e.size)) :
 ∀ (ps : List (Nat × List Value)) (vs : List (Nat × Value)) (cs cs' : List Value), buildF fs T cs ps = some cs' → ps.map (fun p => (p.1, p.2.toArray)) = vs.map (fun p => (p.1, p.2.cells)) →
  Instr.fill (fun k => places[k]?) cs.toArray vs = some cs'.toArray
 | [], vs, cs, cs', h, hv => by
   cases vs with
   | nil => cases h; rfl
   | cons _ _ => cases hv
 | (k, l) :: ps, vs, cs, cs', h, hv => by
   cases vs with
   | nil => cases hv
   | cons p vs =>
     obtain ⟨k', u⟩ := p
     simp only [List.map_cons, List.cons.injEq, Prod.mk.injEq] at hv
     obtain ⟨⟨rfl, hu⟩, hv⟩ := hv
     simp only [buildF] at h
     split at h
     · rename_i fd hfd
       split at h
       · rename_i e he
         cases hb : (Nat.beq l.length e.size && Nat.blt 0 l.length) with
         | false => rw [hb] at h; cases h
         | true =>
           rw [hb] at h
           simp only [cond_true] at h
           simp only [Bool.and_eq_true] at hb
           split at h
           · rename_i c1 h1
             have hlen := Nat.eq_of_beq_eq_true hb.1
             have hpos : 0 < l.length := by simpa [Nat.blt_eq] using hb.2
             have hpl := hp k fd e hfd he
             obtain ⟨_, e2⟩ := putAt_eq _ _ _ _ h1
             have ih := fill_buildF hT fs places hp ps vs c1 cs' h hv
             have hf := fold_put l cs fd.offset c1 h1
             simp only [Instr.fill, hpl, ← hu]
             rw [if_neg]
             · rw [← ih, ← hf]
             · simp [hlen]; omega
           · cases h
       · cases h
     · cases h
theorem evParts_spec : ∀ (l : List (Nat × Operand)) (ps : List (Nat × List Value)), evParts n f l = some ps → ps.map (fun p => (p.1, p.2.toArray)) = (l.map fun p => (p.1, ev n f p.2)).map (fun p => (p.1, p.2.cells))
 | [], ps, h => by cases h; rfl
 | (k, x) :: l, ps, h => by
   simp only [evParts] at h
   split at h
   · rename_i vs hvs
     split at h
     · rename_i r hr
       cases h
       have := evParts_spec l r hr
       simp [cellsL_eq hvs, this]
     · cases h
   · cases h
theorem PV.build (hT : T.ok P) {t : Nat} {parts : Array (Nat × Operand)} {cs : List Value} (h : bld T n f t parts.toList = some cs) : PV P n f ⟨dst, .build t parts, ty, pos, aft, gd⟩ (.agg cs.toArray) := by
 unfold PV; intro w
 unfold bld at h
 split at h
 · rename_i fs _ _ zero he
   cases hall : fs.toList.all (fun fd => (tget T fd.type).isSome) with
   | false => rw [hall] at h; cases h
   | true =>
     rw [hall] at h
     simp only [cond_true] at h
     split at h
     · rename_i ps hps
       obtain ⟨hu, _, ti, z, hi, hs, hby, hz, hzc⟩ := tget_ok hT he
       have hsz : ∀ fd ∈ fs, ∀ w, (do pure (fd.offset, ← sizeOf fd.type) : Sem (Nat × Nat)).run P w = .ok (fd.offset, ((tget T fd.type).map (·.size)).getD 0) w := by
        intro fd hfd w
        have := List.all_eq_true.1 hall fd (by simpa using hfd)
        obtain ⟨e, hee⟩ := Option.isSome_iff_exists.1 this
        obtain ⟨_, _, ti', z', hi', hs', _⟩ := tget_ok hT hee
        simp [sizeOf, run_info hi', hs', hee]
       have hm := run_mapM (P := P) (fun fd : Field => (do pure (fd.offset, ← sizeOf fd.type) : Sem (Nat × Nat))) (fun fd => (fd.offset, ((tget T fd.type).map (·.size)).getD 0)) fs hsz w
       have hfill := fill_buildF hT fs (fs.map fun fd => (fd.offset, ((tget T fd.type).map (·.size)).getD 0)) (fun k fd e h1 h2 => by simp [h1, h2]) ps (parts.toList.map fun p => (p.1, ev n f p.2)) zero cs h (evParts_spec _ _ hps)
       have hpl : (parts.map fun (k, x) => (k, ev n f x)).toList = parts.toList.map fun p => (p.1, ev n f p.2) := by simp
       have h1 : (zeroValue t).run P w = .ok z w := by simp [zeroValue, run_info hi, hz]
       have hb : (Instr.build t (parts.map fun (k, x) => (k, ev n f x))).run P w = .ok (.agg cs.toArray) w := by
        unfold Instr.build
        rw [run_bind' _ _ _ _ _ h1, run_bind' _ _ _ _ _ (run_underlying hu w)]
        dsimp only
        rw [run_bind' _ _ _ _ _ hm, hpl, hzc, hfill]
        rfl
       simp only [execOp]
       rw [run_bind' _ _ _ _ _ hb]
       rfl
     · cases h
 · cases h
end
end Go.Eng
namespace Go.Eng
open Go
theorem St.weaken {i i' : Imm} {L : SH} {w : World} (h : St i' L w) (hi : i.le i') : St i L w :=
 ⟨h.os.trans hi.os, h.tape.trans hi.tape, h.output.trans hi.output, fun b o hb => h.imm b o (hi.blk b o hb), h.nodup, h.own, fun p hp => by
  cases hb : i.blk p.1 with
  | none => rfl
  | some o => have := h.sep p hp; rw [hi.blk _ _ hb] at this; cases this⟩
@[irreducible] def QS (P : Program) (all : List Oper) (n : Nat) (r : List Oper) (f : Fr) (i : Imm) (L : SH) (K : Fr → Prop) : Prop :=
 ∀ ds, wpQuiet P all.toArray (St i L) (fun a => ∃ f', a = ofD n ds f' ∧ K f') r (ofD n ds f)
section
variable {P : Program} {all : List Oper} {n : Nat} {f : Fr} {i : Imm} {L : SH} {r : List Oper} {K : Fr → Prop}
theorem wpIn_of_quiet {F : Fence} (hF : Wd F) {C : World → Prop} {o : Oper} {a : Act} {K : Act → Prop} {K' : Act → World → Prop} {Q' : Exit → Act → World → Prop} {w : World} (hw : C w) (h : ∀ a w', C w' → K a → K' a w') (hh : o.quiet P a C K) : o.wpIn F 0 P a w K' Q' := by
 obtain ⟨v, h1, h2⟩ := hh
 have h3 := h1 w hw
 unfold Oper.quietAt at h3
 unfold Oper.wpIn
 refine ⟨fun f' _ => hF.fn f', ?_⟩
 rw [Oper.semAt_eq F.round a.eval o fun c hc => by
  obtain ⟨dst, op, ty, pos, aft, gd⟩ := o
  simp only at hc
  subst hc
  simp only [execOp, Sem.run_bind] at h3
  cases hr : (resolve a.eval c ty).run P w with
  | ok x w' => rw [hr] at h3; simp only [Result.andThen, Sem.run_pure] at h3; exact h3
  | halt x w' => rw [hr] at h3; exact h3]
 generalize (execOp a.eval o).run P w = r at *
 cases r with
 | ok n w' =>
   cases n <;> simp only [Oper.quietUpon] at h3 <;> simp only [Oper.uponIn]
   case value u =>
    obtain ⟨e1, e2⟩ := h3
    rw [e1, e2]
    exact h _ _ hw h2
   case skip =>
    obtain ⟨e1, e2⟩ := h3
    rw [e1, ← e2]
    exact h _ _ hw h2
   case enter f args =>
    obtain ⟨e1, hc⟩ := h3
    rw [e1]
    exact ⟨hF.depth, hF.calls (hc.mono fun e w'' ⟨he, hw''⟩ => by subst he; exact h _ _ hw'' h2)⟩
 | halt x w' => simp only [Oper.quietUpon] at h3
theorem wpOpIn_of_qOp {F : Fence} (hF : Wd F) {C : World → Prop} {ops : Array Oper} {j : Nat} {a : Act} {K : Act → Prop} {K' : Act → World → Prop} {Q' : Exit → Act → World → Prop} {w : World} (hC : C w) (h : ∀ a w', C w' → K a → K' a w') (hh : qOp P ops C j K a) : wpOpIn F 0 P ops Q' j K' a w := by
 unfold qOp at hh
 unfold wpOpIn
 split
 · rename_i ho; simp only [ho] at hh; exact h _ _ hC hh
 · rename_i o ho
   simp only [ho] at hh
   split
   · rename_i hw; simp only [hw, if_true] at hh; exact wpIn_of_quiet hF hC h hh
   · rename_i hw; simp only [hw] at hh; exact ⟨fun f' _ => hF.fn f', h _ _ hC hh⟩
theorem wpAnyIn_of_quiet {F : Fence} (hF : Wd F) {C : World → Prop} {ops : Array Oper} {md : Region.Mode} {Q : Act → Prop} {Q' : Exit → Act → World → Prop} (hQ : ∀ a w, C w → Q a → Q' .normal a w) : ∀ (fuel : Nat) (listed : Array Bool) (a : Act) (w : World), C w →
 wpAnyQ P md ops C Q fuel listed a → wpAnyIn F 0 P md ops Q' fuel listed a w
 | 0, _, _, _, hw, h => ⟨h.1, hQ _ _ hw h.2⟩
 | fuel + 1, _, _, _, hw, h => ⟨fun h0 => hQ _ _ hw (h.1 h0), fun i hi => wpOpIn_of_qOp hF hw (fun a' w' hw' => wpAnyIn_of_quiet hF hQ fuel _ a' w' hw') (h.2 i hi)⟩
theorem wpIn_region_quiet {F : Fence} (hF : Wd F) {C : World → Prop} {ops : Array Oper} {id : Nat} {Q : Exit → Act → World → Prop} {a : Act} {w : World} (hm : P.follows .mixedOrders = true) (hB : Region.lexB .any ops = true) (hC : C { w with drawn := w.drawn + 1 })
 (h : wpQuiet P ops C (fun a' => ∀ w', C w' → Q .normal a' w') ops.toList a) : (Code.region id ops true).wpIn F 0 P Q a w := by
 simp only [Region.lexB, Bool.and_eq_true] at hB
 refine wpIn_region_any hm (wpAnyIn_of_quiet hF (Q := fun a' => ∀ w', C w' → Q .normal a' w') (fun _ w' hw' h => h w' hw') _ _ _ _ hC ?_)
 have := wpAnyQ_lex (C := C) (md := .any) hB.1 ops.toList 0 (Array.replicate ops.size false) a (by simp) (by simpa using hB.2) h
 simpa using this
theorem CS.drawQ {id : Nat} {Q : Ex → Fr → Imm → SH → Prop} (hm : P.follows .mixedOrders = true) (hB : Region.lexB .any all.toArray = true) (h : QS P all n all f i L fun f' => Q .normal f' i L) : CS P n (.region id all.toArray true) f i L Q := by
 unfold CS
 intro F hF ds w hw R hR
 unfold QS at h
 refine wpIn_region_quiet hF (C := St i L) hm hB hw.drew ?_
 have key : ∀ (r : List Oper) (a : Act) (A B : Act → Prop), (∀ a, A a → B a) → wpQuiet P all.toArray (St i L) A r a → wpQuiet P all.toArray (St i L) B r a := by
  intro r
  induction r with
  | nil => intro a A B hab h; exact hab a h
  | cons o r ih =>
    intro a A B hab h
    simp only [wpQuiet] at h ⊢
    split at h
    · rename_i hw; rw [if_pos hw]; exact Oper.quiet_mono (fun a h => ih a A B hab h) h
    · rename_i hw; rw [if_neg hw]; exact ih _ A B hab h
 have := key all (ofD n ds f) _ (fun a' => ∀ w', St i L w' → R .normal a' w') (fun a ⟨f', ha, hk⟩ w' hw' => by rw [ha]; exact hR .normal f' i L w' (Imm.le.refl i) hw' hk) (h ds)
 simpa using this
theorem QS.nil (h : K f) : QS P all n [] f i L K := by unfold QS; exact fun ds => ⟨f, rfl, h⟩
theorem QS.skip {o : Oper} (hg : gok n f all o = false) (h : QS P all n r (updO f o.dst undef) i L K) : QS P all n (o :: r) f i L K := by
 unfold QS at *
 intro ds
 simp only [wpQuiet]
 rw [if_neg (by rw [gok_eq, hg]; decide), ofD_put]
 exact h ds
theorem QS.lv {dst : Option Nat} {op : Op} {ty : TypeId} {pos : String} {aft : Array Edge} {gd : Option (Nat × Bool)} {v : Value} (hv : LV P n f i L ⟨dst, op, ty, pos, aft, gd⟩ v) (hg : gok n f all ⟨dst, op, ty, pos, aft, gd⟩ = true) (h : QS P all n r (updO f dst v) i L K) : QS P all n (⟨dst, op, ty, pos, aft, gd⟩ :: r) f i L K := by
 unfold QS at *
 intro ds
 simp only [wpQuiet]
 rw [if_pos (by rw [gok_eq, hg])]
 refine ⟨v, fun w hw => ?_, by rw [ofD_put]; exact h ds⟩
 unfold LV at hv
 unfold Oper.quietAt
 rw [ofD_eval, hv w hw]
 exact ⟨rfl, rfl⟩
theorem QS.pv {dst : Option Nat} {op : Op} {ty : TypeId} {pos : String} {aft : Array Edge} {gd : Option (Nat × Bool)} {v : Value} (hv : PV P n f ⟨dst, op, ty, pos, aft, gd⟩ v) (hg : gok n f all ⟨dst, op, ty, pos, aft, gd⟩ = true) (h : QS P all n r (updO f dst v) i L K) : QS P all n (⟨dst, op, ty, pos, aft, gd⟩ :: r) f i L K :=
 QS.lv (by unfold LV; unfold PV at hv; exact fun w _ => hv w) hg h
theorem QS.call {g : FuncId} {as : Array Operand} {ts : Array TypeId} {vs : List Value} {dst : Option Nat} {ty : TypeId} {pos : String} {aft : Array Edge} {gd : Option (Nat × Bool)} {v : Value}
 (hc : FnS P g vs i L fun u _ L' => u = v ∧ L' = L) (hg : gok n f all ⟨dst, .call ⟨.value (.func g), as, ts⟩, ty, pos, aft, gd⟩ = true) (hf : fnOk P g = true) (ha : as.toList.map (ev n f) = vs)
 (h : QS P all n r (updO f dst v) i L K) : QS P all n (⟨dst, .call ⟨.value (.func g), as, ts⟩, ty, pos, aft, gd⟩ :: r) f i L K := by
 unfold QS at *
 intro ds
 simp only [wpQuiet]
 rw [if_pos (by rw [gok_eq, hg])]
 refine ⟨v, fun w hw => ?_, by rw [ofD_put]; exact h ds⟩
 unfold Oper.quietAt
 have : as.map (ev n f) = vs.toArray := by rw [← ha]; exact Array.ext' (by simp)
 have hx : (execOp (ev n f) ⟨dst, .call ⟨.value (.func g), as, ts⟩, ty, pos, aft, gd⟩).run P w = .ok (.enter g vs.toArray) w := by
  simp [execOp, resolve, this, ev, Deferred.ofValue, invoke, run_callFunc hf]
 rw [ofD_eval, hx]
 refine ⟨rfl, (hc w hw).mono ?_⟩
 rintro e w' ⟨u, i', L', rfl, hi, hs, rfl, rfl⟩
 exact ⟨rfl, hs.weaken hi⟩
end
section
variable {P : Program} {all : List Oper} {n : Nat} {f : Fr} {i : Imm} {L : SH} {r : List Oper} {K : Fr → Prop} {dst : Option Nat} {ty : TypeId} {pos : String} {aft : Array Edge} {gd : Option (Nat × Bool)}
 {t t2 : Nat} {x y : Operand} {a b : Int} {k : IntKind} {p q : ByteArray}
theorem QS.ifGtr (hx : ev n f x = .int k a) (hy : ev n f y = .int k b) (hg : gok n f all ⟨dst, .binOp .gtr t x y t2, ty, pos, aft, gd⟩ = true)
 (hT : b < a → QS P all n r (updO f dst (.bool true)) i L K) (hF : a ≤ b → QS P all n r (updO f dst (.bool false)) i L K) : QS P all n (⟨dst, .binOp .gtr t x y t2, ty, pos, aft, gd⟩ :: r) f i L K := by
 by_cases h : b < a
 · exact QS.pv (PV.gtrT hx hy h) hg (hT h)
 · exact QS.pv (PV.gtrF hx hy (by omega)) hg (hF (by omega))
theorem QS.ifEql (hx : ev n f x = .int k a) (hy : ev n f y = .int k b) (hg : gok n f all ⟨dst, .binOp .eql t x y t2, ty, pos, aft, gd⟩ = true)
 (hT : a = b → QS P all n r (updO f dst (.bool true)) i L K) (hF : a ≠ b → QS P all n r (updO f dst (.bool false)) i L K) : QS P all n (⟨dst, .binOp .eql t x y t2, ty, pos, aft, gd⟩ :: r) f i L K := by
 by_cases h : a = b
 · exact QS.pv (PV.eqlT hx hy h) hg (hT h)
 · exact QS.pv (PV.eqlF hx hy h) hg (hF h)
theorem QS.ifSeql (hx : ev n f x = .string p) (hy : ev n f y = .string q) (hg : gok n f all ⟨dst, .binOp .eql t x y t2, ty, pos, aft, gd⟩ = true)
 (hT : p.toList = q.toList → QS P all n r (updO f dst (.bool true)) i L K) (hF : p.toList ≠ q.toList → QS P all n r (updO f dst (.bool false)) i L K) : QS P all n (⟨dst, .binOp .eql t x y t2, ty, pos, aft, gd⟩ :: r) f i L K := by
 by_cases h : p.toList = q.toList
 · exact QS.pv (PV.seqlT hx hy h) hg (hT h)
 · exact QS.pv (PV.seqlF hx hy h) hg (hF h)
end
end Go.Eng
namespace Go.Eng
open Go
def pvE (T : Tab) (n : Nat) (f : Fr) : Op → Option Value
 | .move x => sv (ev n f x)
 | .assign x => sv (ev n f x)
 | .nilCheck x => match ev n f x with
   | .pointer (some a) => some (.pointer (some a))
   | _ => none
 | .extract x ix => match ev n f x with
   | .tuple vs => (match vs[ix]? with | some v => sv v | none => none)
   | _ => none
 | .pick c a b => match ev n f c with
   | .bool true => sv (ev n f a)
   | .bool false => sv (ev n f b)
   | _ => none
 | .fieldAddr s x fld => match ev n f x with
   | .pointer (some ⟨b, o, none⟩) => (match fOff T s fld with | some off => some (.pointer (some ⟨b, o + off, none⟩)) | none => none)
   | _ => none
 | .field s x fld => match ev n f x with
   | .agg cs => fVal T s fld cs.toList
   | _ => none
 | .build t parts => match bld T n f t parts.toList with
   | some cs => some (.agg cs.toArray)
   | none => none
 | .unOp .not _ x => match ev n f x with
   | .bool b => some (.bool (!b))
   | _ => none
 | .binOp .eql t x y _ => match ev n f x, ev n f y with
   | .pointer none, .pointer none => bif tIs T isPtrD t then some (.bool true) else none
   | .pointer (some _), .pointer none => bif tIs T isPtrD t then some (.bool false) else none
   | .pointer none, .pointer (some _) => bif tIs T isPtrD t then some (.bool false) else none
   | .slice none _ _, .slice none 0 0 => bif tIs T isSlD t then some (.bool true) else none
   | .slice (some _) _ _, .slice none 0 0 => bif tIs T isSlD t then some (.bool false) else none
   | .map none, .map none => bif tIs T isMapD t then some (.bool true) else none
   | .map (some _), .map none => bif tIs T isMapD t then some (.bool false) else none
   | _, _ => none
 | .binOp .neq t x y _ => match ev n f x, ev n f y with
   | .pointer none, .pointer none => bif tIs T isPtrD t then some (.bool false) else none
   | .pointer (some _), .pointer none => bif tIs T isPtrD t then some (.bool true) else none
   | .pointer none, .pointer (some _) => bif tIs T isPtrD t then some (.bool true) else none
   | _, _ => none
 | _ => none
theorem bif_some {c : Bool} {a v : Value} (h : (bif c then some a else none) = some v) : c = true ∧ a = v := by
 cases c with
 | true => cases h; exact ⟨rfl, rfl⟩
 | false => cases h
theorem PV.all {P : Program} {n : Nat} {f : Fr} {dst : Option Nat} {ty : TypeId} {pos : String} {aft : Array Edge} {gd : Option (Nat × Bool)} {v : Value} {T : Tab} (hT : T.ok P) {op : Op} (h : pvE T n f op = some v) : PV P n f ⟨dst, op, ty, pos, aft, gd⟩ v := by
 unfold pvE at h
 split at h
 · exact PV.move h
 · exact PV.assign h
 · split at h
   · rename_i a ha; cases h; exact PV.nilCheck ha
   · cases h
 · split at h
   · rename_i vs hvs
     split at h
     · rename_i u hu; rw [sv_eq] at h; cases h; exact PV.extract hvs hu
     · cases h
   · cases h
 · split at h
   · rename_i hc; exact PV.pickT hc h
   · rename_i hc; exact PV.pickF hc h
   · cases h
 · split at h
   · rename_i b o hb
     split at h
     · rename_i off hoff; cases h; exact PV.fieldAddr hT hb hoff
     · cases h
   · cases h
 · split at h
   · rename_i cs hcs; exact PV.field hT (cs := cs.toList) hcs h
   · cases h
 · split at h
   · rename_i cs hcs; cases h; exact PV.build hT hcs
   · cases h
 · split at h
   · rename_i b hb; cases h; exact PV.not hb
   · cases h
 · split at h
   · rename_i hx hy; obtain ⟨ht, rfl⟩ := bif_some h; exact PV.eqlPN hT ht hx hy
   · rename_i hx hy; obtain ⟨ht, rfl⟩ := bif_some h; exact PV.eqlPS hT ht hx hy
   · rename_i hx hy; obtain ⟨ht, rfl⟩ := bif_some h; exact PV.eqlNP hT ht hx hy
   · rename_i hx hy; obtain ⟨ht, rfl⟩ := bif_some h; exact PV.eqlSN hT ht hx hy
   · rename_i hx hy; obtain ⟨ht, rfl⟩ := bif_some h; exact PV.eqlSS hT ht hx hy
   · rename_i hx hy; obtain ⟨ht, rfl⟩ := bif_some h; exact PV.eqlMN hT ht hx hy
   · rename_i hx hy; obtain ⟨ht, rfl⟩ := bif_some h; exact PV.eqlMS hT ht hx hy
   · cases h
 · split at h
   · rename_i hx hy; obtain ⟨ht, rfl⟩ := bif_some h; exact PV.neqPN hT ht hx hy
   · rename_i hx hy; obtain ⟨ht, rfl⟩ := bif_some h; exact PV.neqPS hT ht hx hy
   · rename_i hx hy; obtain ⟨ht, rfl⟩ := bif_some h; exact PV.neqNP hT ht hx hy
   · cases h
 · cases h
end Go.Eng
namespace Go.Eng
open Go
def Rd (i : Imm) (L : SH) (v : Value) (sz n : Nat) (xs : List Value) : Prop :=
 ∃ ao cap, v = .slice ao n cap ∧ xs.length = n * sz ∧ (xs = [] ∨ ∃ b o cs t fz, ao = some ⟨b, o, none⟩ ∧ Has i L b (.cells (List.toArray cs) t fz) ∧ ∀ j, j < xs.length → cs[o + j]? = xs[j]?)
def Sl (i : Imm) (v : Value) (sz n : Nat) (xs : List Value) : Prop :=
 ∃ ao cap, v = .slice ao n cap ∧ xs.length = n * sz ∧ (xs = [] ∨ ∃ b o cs t fz, ao = some ⟨b, o, none⟩ ∧ i.blk b = some (.cells (List.toArray cs) t fz) ∧ ∀ j, j < xs.length → cs[o + j]? = xs[j]?)
theorem Sl.le {i i' : Imm} {v : Value} {sz n : Nat} {xs : List Value} (h : Sl i v sz n xs) (hi : i.le i') : Sl i' v sz n xs := by
 obtain ⟨ao, cap, h1, h2, h3⟩ := h
 refine ⟨ao, cap, h1, h2, h3.imp id ?_⟩
 rintro ⟨b, o, cs, t, fz, h4, h5, h6⟩
 exact ⟨b, o, cs, t, fz, h4, hi.blk _ _ h5, h6⟩
theorem Sl.rd {i : Imm} {v : Value} {sz n : Nat} {xs : List Value} (h : Sl i v sz n xs) (L : SH) : Rd i L v sz n xs := by
 obtain ⟨ao, cap, h1, h2, h3⟩ := h
 refine ⟨ao, cap, h1, h2, h3.imp id ?_⟩
 rintro ⟨b, o, cs, t, fz, h4, h5, h6⟩
 exact ⟨b, o, cs, t, fz, h4, Has.imm h5, h6⟩
def SlO (e : TypeId) (v : Value) (sz n : Nat) (xs : List Value) (O : SH) : Prop :=
 xs.length = n * sz ∧ ((v = .slice none 0 0 ∧ n = 0 ∧ O = []) ∨
  ∃ g cap sp, v = .slice (some ⟨g, 0, none⟩) n cap ∧ n ≤ cap ∧ (xs ++ sp).length = cap * sz ∧ O = [(g, .cells (xs ++ sp).toArray e (0, 0))])
theorem SlO.nil (e : TypeId) (sz : Nat) : SlO e (.slice none 0 0) sz 0 [] [] := ⟨by simp, .inl ⟨rfl, rfl, rfl⟩⟩
theorem SlO.rd {e : TypeId} {v : Value} {sz n : Nat} {xs : List Value} {O L : SH} {i : Imm} (h : SlO e v sz n xs O) : Rd i (O ++ L) v sz n xs := by
 obtain ⟨h1, ⟨rfl, rfl, rfl⟩ | ⟨g, cap, sp, rfl, h2, h3, rfl⟩⟩ := h
 · exact ⟨none, 0, rfl, h1, .inl (List.eq_nil_of_length_eq_zero (by simpa using h1))⟩
 · refine ⟨some ⟨g, 0, none⟩, cap, rfl, h1, .inr ⟨g, 0, xs ++ sp, e, (0, 0), rfl, .inr (by simp), fun j hj => ?_⟩⟩
   rw [Nat.zero_add, List.getElem?_append_left hj]
theorem SlO.freeze {e : TypeId} {v : Value} {sz n : Nat} {xs : List Value} {O L : SH} {i : Imm} {w : World} (h : SlO e v sz n xs O) (hs : St i (O ++ L) w) : ∃ i', i.le i' ∧ St i' L w ∧ Sl i' v sz n xs := by
 obtain ⟨h1, ⟨rfl, rfl, rfl⟩ | ⟨g, cap, sp, rfl, h2, h3, rfl⟩⟩ := h
 · refine ⟨i, Imm.le.refl i, hs, none, 0, rfl, h1, .inl (List.eq_nil_of_length_eq_zero (by simpa using h1))⟩
 · refine ⟨i.add g _, (St.freeze hs).1, (St.freeze hs).2, some ⟨g, 0, none⟩, cap, rfl, h1, .inr ⟨g, 0, xs ++ sp, e, (0, 0), rfl, by simp [Imm.add], fun j hj => ?_⟩⟩
   rw [Nat.zero_add, List.getElem?_append_left hj]
section
variable {P : Program} {n : Nat} {f : Fr} {i : Imm} {L : SH} {dst : Option Nat} {ty : TypeId} {pos : String} {aft : Array Edge} {gd : Option (Nat × Bool)} {v : Value} {T : Tab} {K : Value → Imm → SH → Prop}
theorem run_append_zero (w : World) {t ty' e : TypeId} {ti : TypeInfo} (ht : P.underlying t = some (.slice e)) (hi : P.info? e = some ti) (base : Option Addr) (k cap : Nat) (hk : k ≤ cap) (x : Option Addr) (c : Nat) :
 (Builtin.append_ #[t, t] ty' #[.slice base k cap, .slice x 0 c]).run P w = .ok (.slice base k cap) w := by
 cases x <;> cases base <;> simp [Builtin.append_, run_underlying ht, sizeOf, run_info hi, Builtin.lenOf, hk, Builtin.firstCells, loadCells, loadCellsFrom, storeCells]
theorem OpS.append (hT : T.ok P) {t e sz bytes : Nat} {x y : Operand} {u : Value} {k m : Nat} {xs news : List Value} {O L0 : SH} (hx : ev n f x = v) (hy : ev n f y = u) (hte : ∃ d, tget T t = some d ∧ d.desc = .slice e) (hee : ∃ d, tget T e = some d ∧ d.size = sz ∧ d.bytes = bytes) (hsz : 0 < sz)
 (hv : SlO e v sz k xs O) (hL : L = O ++ L0) (hu : Rd i L u sz m news) (hone : ∀ c ∈ news, c.oneCell' = true) (hmax : (k + m) * bytes ≤ 140737488355328) (hmax2 : k + m ≤ 9223372036854775807)
 (h : ∀ v' O', SlO e v' sz (k + m) (xs ++ news) O' → (v' = .slice none 0 0 → v = .slice none 0 0 ∧ m = 0) → K v' i (O' ++ L0)) : OpS P n ⟨dst, .call ⟨.builtin .append, #[x, y], #[t, t]⟩, ty, pos, aft, gd⟩ f i L K := by
 subst hL
 obtain ⟨d1, ht, hd⟩ := hte
 obtain ⟨d2, he, hes, heb⟩ := hee
 have hu1 := (tget_ok hT ht).und
 rw [hd] at hu1
 obtain ⟨_, hzl, ti, z, hi, hs, hb, hz, hzc⟩ := tget_ok hT he
 have hzs : z.cells.size = sz := by rw [hzc, List.size_toArray, hzl, hes]
 rw [hes] at hs
 rw [heb] at hb
 obtain ⟨uo, uc, rfl, hul, hur⟩ := hu
 have hlen : (xs ++ news).length = (k + m) * sz := by rw [List.length_append, hv.1, hul, Nat.add_mul]
 refine OpS.valueW fun w hw => ?_
 have hex : ∀ r w', (Builtin.append_ #[t, t] ty #[v, .slice uo m uc]).run P w = .ok r w' → (execOp (ev n f) ⟨dst, .call ⟨.builtin .append, #[x, y], #[t, t]⟩, ty, pos, aft, gd⟩).run P w = .ok (.value r) w' := by
  intro r w' hr
  simp [execOp, resolve, hx, hy, invoke, builtin, hr]
 by_cases hm : m = 0
 · subst hm
   have hn : news = [] := List.eq_nil_of_length_eq_zero (by simpa using hul)
   subst hn
   refine ⟨v, w, i, O ++ L0, hex _ _ ?_, Imm.le.refl i, hw, h v O (by simpa using hv) (fun hv => ⟨hv, rfl⟩)⟩
   obtain ⟨_, ⟨rfl, rfl, rfl⟩ | ⟨g, cap, sp, rfl, h2, _, rfl⟩⟩ := hv
   · exact run_append_zero w hu1 hi none 0 0 (Nat.le_refl _) uo uc
   · exact run_append_zero w hu1 hi _ k cap h2 uo uc
 · have hne : news ≠ [] := by
    intro h0
    rw [h0] at hul
    have : 0 < m * sz := Nat.mul_pos (by omega) hsz
    simp at hul; omega
   obtain ⟨b, o, cs, tt, fz, rfl, hbl, hcell⟩ := hur.resolve_left hne
   have hnews : ∀ j c, news[j]? = some c → w.cell? ((⟨b, o, none⟩ : Addr).add j) = some c := by
    intro j c hj
    rw [Addr.add_none, cell_at (hbl.block hw), hcell j (List.getElem?_eq_some_iff.1 hj).1, hj]
   obtain ⟨hv1, ⟨rfl, rfl, rfl⟩ | ⟨g, cap, sp, rfl, h2, h3, rfl⟩⟩ := hv
   ·
    have hxs : xs = [] := List.eq_nil_of_length_eq_zero (by simpa using hv1)
    subst hxs
    rw [Nat.zero_add] at hmax
    have hr := run_append_nil (P := P) (ty := ty) w t e ti z hu1 hi hz ⟨b, o, none⟩ m uc news (by rw [hs]; exact hul) hnews (by omega) (by omega) (by rw [hb]; omega)
    refine ⟨_, _, i, _, hex _ _ hr, Imm.le.refl i, St.push (w := w.drew) hw.drew rfl rfl rfl rfl, ?_⟩
    have hge := grownCap_ge w m 0 e
    refine h _ [(w.heap.size, _)] ⟨by simpa using hlen, .inr ⟨w.heap.size, grownCap w m 0 e, (Builtin.zeroCells z.cells (grownCap w m 0 e - m)).toList, by simp, by omega, ?_, ?_⟩⟩ (fun h0 => by cases h0)
    · simp only [List.nil_append, List.length_append, Array.length_toList, size_zeroCells]
      rw [hul, hzs, ← Nat.add_mul]; congr 1; omega
    · simp
   · by_cases hroom : k + m ≤ cap
     ·
      have hg : w.heap[g]? = some (.cells (xs ++ sp).toArray e (0, 0)) := hw.own (g, _) (by simp)
      have hr := run_append_room (P := P) (ty := ty) w t e ti hu1 hi g k cap (xs ++ sp).toArray hg ⟨b, o, none⟩ m uc news (by rw [hs]; exact hul) hnews hone hroom (by
       rw [hs, List.size_toArray, h3, hul, ← Nat.add_mul]; exact Nat.mul_le_mul_right _ hroom)
      refine ⟨_, _, i, _, hex _ _ hr, Imm.le.refl i, hw.put (k := 0) (b := g) (o := .cells (xs ++ sp).toArray e (0, 0)) rfl rfl rfl rfl (heap_setRow w g _ _ _ _ hg), ?_⟩
      rw [hs, ← hv1]
      simp only [List.cons_append, List.nil_append, List.set_cons_zero]
      refine h _ [(g, _)] ⟨hlen, .inr ⟨g, cap, sp.drop news.length, rfl, hroom, ?_, ?_⟩⟩ (fun h0 => by cases h0)
      · rw [List.length_append, List.length_append, List.length_drop]
        rw [List.length_append] at h3
        have : (k + m) * sz ≤ cap * sz := Nat.mul_le_mul_right _ hroom
        rw [Nat.add_mul] at this
        omega
      · simp [List.drop_append]
     ·
      have hg : w.heap[g]? = some (.cells (xs ++ sp).toArray e (0, 0)) := hw.own (g, _) (by simp)
      have holds : ∀ j c, xs[j]? = some c → w.cell? ((⟨g, 0, none⟩ : Addr).add j) = some c := by
       intro j c hj
       rw [Addr.add_none, cell_at hg, Nat.zero_add, List.getElem?_append_left (List.getElem?_eq_some_iff.1 hj).1, hj]
      have hr := run_append_grow (P := P) (ty := ty) w t e ti z hu1 hi hz ⟨g, 0, none⟩ k cap xs (by rw [hs]; exact hv1) holds ⟨b, o, none⟩ m uc news (by rw [hs]; exact hul) hnews (by omega) (by omega) (by rw [hb]; exact growslice_fits (by omega) hmax)
      obtain ⟨arr, harr⟩ : ∃ arr, arr = xs.toArray ++ news.toArray ++ Builtin.zeroCells z.cells (grownCap w (k + m) cap e - (k + m)) := ⟨_, rfl⟩
      rw [← harr] at hr
      have hS : St i ((w.heap.size, .cells arr e (0, 0)) :: (g, .cells (xs ++ sp).toArray e (0, 0)) :: L0) (w.drew.alloc (.cells arr e (0, 0))) := St.push (w := w.drew) hw.drew rfl rfl rfl rfl
      refine ⟨_, _, i, (w.heap.size, .cells arr e (0, 0)) :: L0, hex _ _ hr, Imm.le.refl i, (hS.perm (List.Perm.swap _ _ _)).drop, ?_⟩
      subst harr
      have hge := grownCap_ge w (k + m) cap e
      refine h _ [(w.heap.size, _)] ⟨hlen, .inr ⟨w.heap.size, grownCap w (k + m) cap e, (Builtin.zeroCells z.cells (grownCap w (k + m) cap e - (k + m))).toList, rfl, by omega, ?_, ?_⟩⟩ (fun h0 => by cases h0)
      · simp only [List.length_append, Array.length_toList, size_zeroCells]
        rw [hv1, hul, hzs, ← Nat.add_mul, ← Nat.add_mul]; congr 1; omega
      · simp
theorem putAt_some : ∀ (vs cs : List Value) (off : Nat), off + vs.length ≤ cs.length → putAt cs off vs = some (cs.take off ++ vs ++ cs.drop (off + vs.length))
 | [], cs, off, _ => by simp [putAt]
 | v :: vs, cs, off, h => by
   simp only [List.length_cons] at h
   have hlt : off < cs.length := by omega
   have h1 : setX cs off v = some (cs.set off v) := setX_some cs off v cs[off] (List.getElem?_eq_getElem hlt)
   have h2 := putAt_some vs (cs.set off v) (off + 1) (by simp; omega)
   simp only [putAt, h1, h2, Option.some.injEq]
   exact ((putAt_eq (v :: vs) cs off _ (by simp only [putAt, h1, h2])).1)
def flat : Nat → Nat → List (Nat × List Value) → Option (List Value)
 | _, _, [] => some []
 | sz, k, (j, vs) :: ps => bif Nat.beq j k && Nat.beq vs.length sz then (match flat sz (k + 1) ps with | some r => catX vs r | none => none) else none
where catX : List Value → List Value → Option (List Value)
 | [], r => some r
 | a :: l, r => match catX l r with | some x => some (a :: x) | none => none
theorem catX_eq : ∀ (l r x : List Value), flat.catX l r = some x → x = l ++ r
 | [], r, x, h => by cases h; rfl
 | a :: l, r, x, h => by
   simp only [flat.catX] at h
   split at h
   · rename_i y hy; cases h; rw [catX_eq l r y hy]; rfl
   · cases h
theorem fill_flat (sz : Nat) (hsz : 0 < sz) : ∀ (ps : List (Nat × List Value)) (vs : List (Nat × Value)) (k : Nat) (cs x : List Value), flat sz k ps = some x → cs.length = (k + ps.length) * sz →
 ps.map (fun p => (p.1, p.2.toArray)) = vs.map (fun p => (p.1, p.2.cells)) → Instr.fill (fun j => some (j * sz, sz)) cs.toArray vs = some (cs.take (k * sz) ++ x).toArray
 | [], vs, k, cs, x, h, hl, hv => by
   cases vs with
   | nil => cases h; simp only [Instr.fill]; rw [List.take_of_length_le (by simp at hl; omega)]; simp
   | cons _ _ => cases hv
 | (j, l) :: ps, vs, k, cs, x, h, hl, hv => by
   cases vs with
   | nil => cases hv
   | cons p vs =>
     obtain ⟨j', u⟩ := p
     simp only [List.map_cons, List.cons.injEq, Prod.mk.injEq] at hv
     obtain ⟨⟨rfl, hu⟩, hv⟩ := hv
     simp only [flat] at h
     cases hb : (Nat.beq j k && Nat.beq l.length sz) with
     | false => rw [hb] at h; cases h
     | true =>
       rw [hb] at h
       simp only [cond_true] at h
       simp only [Bool.and_eq_true] at hb
       have hj := Nat.eq_of_beq_eq_true hb.1
       have hll := Nat.eq_of_beq_eq_true hb.2
       subst hj
       split at h
       · rename_i r hr
         have hx := catX_eq _ _ _ h
         simp only [List.length_cons] at hl
         have hmul : (j + (ps.length + 1)) * sz = j * sz + sz + ps.length * sz := by rw [Nat.add_mul, Nat.add_mul]; omega
         have hp := putAt_some l cs (j * sz) (by rw [hll, hl, hmul]; omega)
         have hf := fold_put l cs (j * sz) _ hp
         have ih := fill_flat sz hsz ps vs (j + 1) (cs.take (j * sz) ++ l ++ cs.drop (j * sz + l.length)) r hr (by
          rw [List.length_append, List.length_append, List.length_take, List.length_drop, hll, hl, hmul, Nat.min_eq_left (by omega)]
          have : (j + 1 + ps.length) * sz = j * sz + sz + ps.length * sz := by rw [Nat.add_mul, Nat.add_mul]; omega
          omega) hv
         simp only [Instr.fill, ← hu]
         rw [if_neg]
         · rw [hf, ih, hx]
           congr 2
           have h1 : (j + 1) * sz = (cs.take (j * sz) ++ l).length := by
            rw [List.length_append, List.length_take, hll, Nat.add_mul, hl, hmul, Nat.min_eq_left (by omega)]; omega
           rw [h1, List.take_left]
           simp
         · simp [hll]; rw [hl, hmul]; omega
       · cases h
def bsl (T : Tab) (n : Nat) (f : Fr) (t len : Nat) (parts : List (Nat × Operand)) : Option (Nat × List Value) :=
 match tget T t with
 | some ⟨.slice e, _, _, _⟩ => match tget T e with
   | some x => (match evParts n f parts with | some ps => bif Nat.beq ps.length len && Nat.blt 0 x.size && Nat.ble (len * x.size) 16777216 then (match flat x.size 0 ps with | some cs => some (e, cs) | none => none) else none | none => none)
   | none => none
 | _ => none
theorem OpS.buildSlice (hT : T.ok P) {t len e : Nat} {parts : Array (Nat × Operand)} {cs : List Value} (h : bsl T n f t len parts.toList = some (e, cs)) (k : ∀ b, K (.slice (some ⟨b, 0, none⟩) len len) i ((b, .cells cs.toArray e (0, 0)) :: L)) :
 OpS P n ⟨dst, .buildSlice t len parts, ty, pos, aft, gd⟩ f i L K := by
 unfold bsl at h
 split at h
 · rename_i e' _ _ _ he
   split at h
   · rename_i x hx
     split at h
     · rename_i ps hps
       cases hb : (Nat.beq ps.length len && Nat.blt 0 x.size && Nat.ble (len * x.size) 16777216) with
       | false => rw [hb] at h; cases h
       | true =>
         rw [hb] at h
         simp only [cond_true] at h
         split at h
         · rename_i cs' hcs
           cases h
           simp only [Bool.and_eq_true] at hb
           obtain ⟨⟨hb1, hb2⟩, hb3⟩ := hb
           have hlen := Nat.eq_of_beq_eq_true hb1
           have hpos : 0 < x.size := by simpa [Nat.blt_eq] using hb2
           have hle : len * x.size ≤ 16777216 := Nat.le_of_ble_eq_true hb3
           have hu := (tget_ok hT he).und
           obtain ⟨_, hzl, ti, z, hi, hs, hby, hz, hzc⟩ := tget_ok hT hx
           refine OpS.valueW fun w hw => ?_
           have h1 : (zeroValue e).run P w = .ok z w := by simp [zeroValue, run_info hi, hz]
           have hfl : ∀ base : List Value, base.length = len * x.size → Instr.fill (fun j => some (j * x.size, x.size)) base.toArray (parts.toList.map fun p => (p.1, ev n f p.2)) = some cs.toArray := by
            intro base hbl
            have := fill_flat x.size hpos ps (parts.toList.map fun p => (p.1, ev n f p.2)) 0 base cs hcs (by rw [hbl, hlen, Nat.zero_add]) (evParts_spec _ _ hps)
            simpa using this
           have hpl : (parts.map fun (k, x) => (k, ev n f x)).toList = parts.toList.map fun p => (p.1, ev n f p.2) := by simp
           refine ⟨.slice (some ⟨w.heap.size, 0, none⟩) len len, { w with heap := w.heap.push (.cells cs.toArray e (0, 0)) }, i, _, ?_, Imm.le.refl i, hw.push rfl rfl rfl rfl, k _⟩
           have hrun : (Instr.buildSlice t len (parts.map fun (k, x) => (k, ev n f x))).run P w = .ok (.slice (some ⟨w.heap.size, 0, none⟩) len len) { w with heap := w.heap.push (.cells cs.toArray e (0, 0)) } := by
            unfold Instr.buildSlice
            rw [run_bind' _ _ _ _ _ (run_underlying hu w)]
            dsimp only
            have hsz : (sizeOf e).run P w = .ok x.size w := by simp [sizeOf, run_info hi, hs]
            rw [run_bind' _ _ _ _ _ hsz]
            rw [if_neg (by omega)]
            by_cases h0 : len * x.size = 0
            · rw [if_pos h0, run_bind' _ _ _ _ _ (show (pure #[] : Sem (Array Value)).run P w = .ok #[] w from rfl)]
              have hb0 := hfl ((Array.range (len * x.size)).map ((#[] : Array Value)[· % (#[] : Array Value).size]!)).toList (by simp)
              rw [Array.toArray_toList] at hb0
              rw [hpl, hb0]
              simp [newRow]
            · rw [if_neg h0, run_bind' _ _ _ _ _ h1, run_bind' _ _ _ _ _ (show (pure z.cells : Sem (Array Value)).run P w = .ok z.cells w from rfl)]
              have hb0 := hfl ((Array.range (len * x.size)).map (z.cells[· % z.cells.size]!)).toList (by simp)
              rw [Array.toArray_toList] at hb0
              rw [hpl, hb0]
              simp [newRow]
           simp only [execOp]
           rw [run_bind' _ _ _ _ _ hrun]
           rfl
         · cases h
     · cases h
   · cases h
 · cases h
end
end Go.Eng
namespace Go.Eng
open Go
section
variable {P : Program} {all : List Oper} {n : Nat} {r : List Oper} {f : Fr} {i : Imm} {L : SH} {K : Fr → Imm → SH → Prop} {dst : Option Nat} {ty : TypeId} {pos : String} {aft : Array Edge} {gd : Option (Nat × Bool)} {T : Tab} {v : Value}
theorem RS.append (hT : T.ok P) {t e sz bytes : Nat} {x y : Operand} {u : Value} {k m : Nat} {xs news : List Value} {O L0 : SH} (hg : gok n f all ⟨dst, .call ⟨.builtin .append, #[x, y], #[t, t]⟩, ty, pos, aft, gd⟩ = true) (hx : ev n f x = v) (hy : ev n f y = u)
 (hte : ∃ d, tget T t = some d ∧ d.desc = .slice e) (hee : ∃ d, tget T e = some d ∧ d.size = sz ∧ d.bytes = bytes) (hsz : 0 < sz)
 (hv : SlO e v sz k xs O) (hL : L = O ++ L0) (hu : Rd i L u sz m news) (hone : ∀ c ∈ news, c.oneCell' = true) (hmax : (k + m) * bytes ≤ 140737488355328) (hmax2 : k + m ≤ 9223372036854775807)
 (h : ∀ v' O', SlO e v' sz (k + m) (xs ++ news) O' → (v' = .slice none 0 0 → v = .slice none 0 0 ∧ m = 0) → RS P all n r (updO f dst v') i (O' ++ L0) K) : RS P all n (⟨dst, .call ⟨.builtin .append, #[x, y], #[t, t]⟩, ty, pos, aft, gd⟩ :: r) f i L K :=
 RS.step hg (OpS.append hT hx hy hte hee hsz hv hL hu hone hmax hmax2 h)
theorem RS.buildSlice (hT : T.ok P) {t len e : Nat} {parts : Array (Nat × Operand)} {cs : List Value} (hg : gok n f all ⟨dst, .buildSlice t len parts, ty, pos, aft, gd⟩ = true) (h : bsl T n f t len parts.toList = some (e, cs))
 (k : ∀ b, RS P all n r (updO f dst (.slice (some ⟨b, 0, none⟩) len len)) i ((b, .cells cs.toArray e (0, 0)) :: L) K) : RS P all n (⟨dst, .buildSlice t len parts, ty, pos, aft, gd⟩ :: r) f i L K :=
 RS.step hg (OpS.buildSlice hT h k)
end
theorem SlO.built (e : TypeId) (sz len : Nat) (b : Nat) (cs : List Value) (h : cs.length = len * sz) : SlO e (.slice (some ⟨b, 0, none⟩) len len) sz len cs [(b, .cells cs.toArray e (0, 0))] :=
 ⟨h, .inr ⟨b, len, [], rfl, Nat.le_refl _, by simpa using h, by simp⟩⟩
theorem FnS.frozen {P : Program} {g : FuncId} {args : List Value} {i : Imm} {L : SH} {e : TypeId} {sz n : Nat} {xs : List Value} (h : FnS P g args i L fun v' _ L' => ∃ O, SlO e v' sz n xs O ∧ L' = O ++ L) :
 FnS P g args i L fun v' i' L' => Sl i' v' sz n xs ∧ L' = L :=
 h.state fun v i' L' w _ hs ⟨O, hO, hL⟩ => by
  subst hL
  obtain ⟨i'', h1, h2, h3⟩ := hO.freeze hs
  exact ⟨i'', L, h1, h2, h3, rfl⟩
end Go.Eng
namespace Go.Eng
open Go
theorem FnS.introC {P : Program} {T : Tab} (hT : T.ok P) {g : FuncId} {fn : Func} {c : Code} {args : List Value} {i : Imm} {L : SH} {Post : Value → Imm → SH → Prop} {n a t : Nat}
 (hf : P.funcs[g]? = some fn) (hb : fn.body = some c) (hn : fn.ntmps = n) (hl : args.length ≤ n) (hres : fn.results = #[.cell a t])
 (h : CS P n c (argF 0 args) i L (retQ fun f i' L' => ∃ b off cs t' fz v, ev n f (.tmp a) = .pointer (some ⟨b, off, none⟩) ∧ Has i' L' b (.cells (List.toArray cs) t' fz) ∧ ldV T t off cs = some v ∧ Post v i' L')) : FnS P g args i L Post :=
 FnS.body hf hb hn hl _ (fun f i' L' w hs ⟨b, off, cs, t', fz, v, h1, h2, h3, h4⟩ => by
  have h5 := run_ldV hT (h2.block hs) h3
  have h6 : (loadVar t ⟨b, off, none⟩).run P w = .ok v w := by simpa [Instr.loadAt, Instr.sureAddr] using h5
  refine ⟨v, ?_, h4⟩
  simp only [results, hres]
  have h8 : (ofF n f).tmps[a]?.getD undef = .pointer (some ⟨b, off, none⟩) := by rw [evt]; exact h1
  simp [h8, asAddr, h6]) h
theorem FnS.introCT {P : Program} {T : Tab} (hT : T.ok P) {g : FuncId} {fn : Func} {c : Code} {args : List Value} {i : Imm} {L : SH} {Post : Value → Imm → SH → Prop} {n a t r : Nat}
 (hf : P.funcs[g]? = some fn) (hb : fn.body = some c) (hn : fn.ntmps = n) (hl : args.length ≤ n) (hres : fn.results = #[.cell a t, .tmp r])
 (h : CS P n c (argF 0 args) i L (retQ fun f i' L' => ∃ b off cs t' fz v, ev n f (.tmp a) = .pointer (some ⟨b, off, none⟩) ∧ Has i' L' b (.cells (List.toArray cs) t' fz) ∧ ldV T t off cs = some v ∧ Post (.tuple #[v, ev n f (.tmp r)]) i' L')) : FnS P g args i L Post :=
 FnS.body hf hb hn hl _ (fun f i' L' w hs ⟨b, off, cs, t', fz, v, h1, h2, h3, h4⟩ => by
  have h5 := run_ldV hT (h2.block hs) h3
  have h6 : (loadVar t ⟨b, off, none⟩).run P w = .ok v w := by simpa [Instr.loadAt, Instr.sureAddr] using h5
  refine ⟨_, ?_, h4⟩
  simp only [results, hres]
  have h8 : (ofF n f).tmps[a]?.getD undef = .pointer (some ⟨b, off, none⟩) := by rw [evt]; exact h1
  have h9 := evt n f r
  simp [h8, asAddr, h6, h9]) h
end Go.Eng
namespace Go.Eng
theorem Has.mem {i : Imm} {L : SH} {b : Nat} {o : Obj} (h : (b, o) ∈ L) : Has i L b o := Or.inr h
end Go.Eng
namespace Go.Eng
open Go
section
variable {P : Program} {all : List Oper} {n : Nat} {r : List Oper} {f : Fr} {i : Imm} {L : SH} {K : Fr → Imm → SH → Prop} {dst : Option Nat} {ty : TypeId} {pos : String} {aft : Array Edge} {gd : Option (Nat × Bool)} {T : Tab}
end
end Go.Eng
namespace Go.Eng
open Go
section
variable {P : Program} {n : Nat} {f : Fr} {dst : Option Nat} {ty t t2 : TypeId} {pos : String} {aft : Array Edge} {gd : Option (Nat × Bool)} {x y : Operand} {p q : Bool}
theorem run_eq_bool0 {P : Program} {t : TypeId} {p q : Bool} (h : P.underlying t = some .bool) (d : Nat) (w : World) : (Op.equalIn (d + 1) t (.bool p) (.bool q)).run P w = .ok (p == q) w := by
 simp [Op.equalIn, run_underlying h]
theorem run_eq_bool {P : Program} {t : TypeId} {p q : Bool} (h : P.underlying t = some .bool) (w : World) : (Op.equal t (.bool p) (.bool q)).run P w = .ok (p == q) w :=
 run_eq_bool0 h _ w
theorem PV.bneq {T : Tab} (hT : T.ok P) (ht : ∃ d, tget T t = some d ∧ d.desc = .bool) (hx : ev n f x = .bool p) (hy : ev n f y = .bool q) : PV P n f ⟨dst, .binOp .neq t x y t2, ty, pos, aft, gd⟩ (.bool (!(p == q))) := by
 obtain ⟨d, h1, h2⟩ := ht
 have h3 := (tget_ok hT h1).und
 rw [h2] at h3
 unfold PV; intro w; simp [execOp, hx, hy, eqGuard, binOp, run_eq_bool h3, Result.andThen]
end
end Go.Eng
namespace Go.Eng
open Go
abbrev ME := Int × Value × Nat
def ents (es : List ME) : Array MapEntry := (es.map fun e => (⟨.int .i64 e.1, e.2.1, e.2.2⟩ : MapEntry)).toArray
section
variable {P : Program} {n : Nat} {f : Fr} {i : Imm} {L : SH} {K : Value → Imm → SH → Prop} {dst : Option Nat} {ty : TypeId} {pos : String} {aft : Array Edge} {gd : Option (Nat × Bool)} {T : Tab}
theorem run_getObj_m {w : World} {r : Nat} {es : Array MapEntry} {c : Nat} (hb : w.heap[r]? = some (.map es c)) : (getObj r).run P w = .ok (.map es c) w := by
 simp [getObj, Sem.run, hb]
theorem run_setObj_m {w : World} {r : Nat} {es : Array MapEntry} {c : Nat} (o' : Obj) (hb : w.heap[r]? = some (.map es c)) : (setObj r o').run P w = .ok () { w with heap := w.heap.setIfInBounds r o' } := by
 simp [setObj, Sem.run, hb]
theorem OpS.makeMap {t : TypeId} (h : ∀ b, K (.map (some b)) i ((b, .map (ents []) 0) :: L)) : OpS P n ⟨dst, .makeMap t none, ty, pos, aft, gd⟩ f i L K := by
 refine OpS.valueW fun w hw => ?_
 refine ⟨.map (some w.heap.size), { w with heap := w.heap.push (.map #[] 0) }, i, _, ?_, Imm.le.refl i, hw.push rfl rfl rfl rfl, h _⟩
 simp [execOp, Instr.makeMap, newObj]
 rfl
end
section
variable {P : Program} {all : List Oper} {n : Nat} {r : List Oper} {f : Fr} {i : Imm} {L : SH} {K : Fr → Imm → SH → Prop} {dst : Option Nat} {ty : TypeId} {pos : String} {aft : Array Edge} {gd : Option (Nat × Bool)} {T : Tab}
end
end Go.Eng
namespace Go.Eng
open Go
theorem FnS.introCTT {P : Program} {T : Tab} (hT : T.ok P) {g : FuncId} {fn : Func} {c : Code} {args : List Value} {i : Imm} {L : SH} {Post : Value → Imm → SH → Prop} {n a t r s : Nat}
 (hf : P.funcs[g]? = some fn) (hb : fn.body = some c) (hn : fn.ntmps = n) (hl : args.length ≤ n) (hres : fn.results = #[.cell a t, .tmp r, .tmp s])
 (h : CS P n c (argF 0 args) i L (retQ fun f i' L' => ∃ b off cs t' fz v, ev n f (.tmp a) = .pointer (some ⟨b, off, none⟩) ∧ Has i' L' b (.cells (List.toArray cs) t' fz) ∧ ldV T t off cs = some v ∧ Post (.tuple #[v, ev n f (.tmp r), ev n f (.tmp s)]) i' L')) : FnS P g args i L Post :=
 FnS.body hf hb hn hl _ (fun f i' L' w hs ⟨b, off, cs, t', fz, v, h1, h2, h3, h4⟩ => by
  have h5 := run_ldV hT (h2.block hs) h3
  have h6 : (loadVar t ⟨b, off, none⟩).run P w = .ok v w := by simpa [Instr.loadAt, Instr.sureAddr] using h5
  refine ⟨_, ?_, h4⟩
  simp only [results, hres]
  have h8 : (ofF n f).tmps[a]?.getD undef = .pointer (some ⟨b, off, none⟩) := by rw [evt]; exact h1
  have h9 := evt n f r
  have h10 := evt n f s
  simp [h8, asAddr, h6, h9, h10]) h
theorem FnS.ctx {P : Program} {g : FuncId} {args : List Value} {i : Imm} (A : SH) {B R : SH} {X : Type} {φ : X → Value → Imm → Prop} {B' : X → SH}
 (h : FnS P g args i (B ++ (A ++ R)) fun v i' L' => ∃ x, φ x v i' ∧ L' = B' x ++ (A ++ R)) : FnS P g args i (A ++ (B ++ R)) fun v i' L' => ∃ x, φ x v i' ∧ L' = A ++ (B' x ++ R) := by
 refine FnS.state (FnS.frame (List.perm_append_comm_assoc A B R) h) ?_
 rintro v i' L' w _ hs ⟨x, hx, rfl⟩
 exact ⟨i', _, Imm.le.refl i', hs.perm (List.perm_append_comm_assoc _ _ _), x, hx, rfl⟩
end Go.Eng
namespace Go.Eng
open Go
theorem CS.cut {P : Program} {n : Nat} {x y : Code} {f : Fr} {i : Imm} {L : SH} {Q : Ex → Fr → Imm → SH → Prop} (slots : List Nat) (I : List Value → Imm → SH → Prop)
 (h1 : CS P n x f i L (thenQ (fun f' i' L' => I (slots.map f') i' L') Q)) (h2 : ∀ g vs i' L', i.le i' → I vs i' L' → CS P n y (updL g slots vs) i' L' Q) : CS P n (.seq x y) f i L Q := by
 refine CS.seq (CS.mono h1 fun e f' i' L' hi q => ?_)
 unfold thenQ at *
 cases e with
 | normal =>
   have := h2 f' _ i' L' hi q
   rw [updL_map] at this
   exact this
 | exit id => exact q
 | ret => exact q
end Go.Eng
namespace Go.Eng
open Go
section
variable {P : Program} {n : Nat} {f : Fr} {i : Imm} {L : SH} {dst : Option Nat} {ty : TypeId} {pos : String} {aft : Array Edge} {gd : Option (Nat × Bool)} {T : Tab} {v : Value}
theorem OpS.pv {op : Op} (h : PV P n f ⟨dst, op, ty, pos, aft, gd⟩ v) : OpS P n ⟨dst, op, ty, pos, aft, gd⟩ f i L fun u _ L'' => L'' = L ∧ u = v := by
 unfold PV at h
 exact OpS.value (fun w _ => h w) ⟨rfl, rfl⟩
theorem OpS.lv {op : Op} (h : LV P n f i L ⟨dst, op, ty, pos, aft, gd⟩ v) : OpS P n ⟨dst, op, ty, pos, aft, gd⟩ f i L fun u _ L'' => L'' = L ∧ u = v := by
 unfold LV at h
 exact OpS.value (fun w hw => h w hw) ⟨rfl, rfl⟩
end
end Go.Eng
namespace Go.Eng
open Go
theorem str_inj {p q : ByteArray} (h : p.toList = q.toList) : p = q := by
 rw [ByteArray.toList_eq, ByteArray.toList_eq] at h
 exact Go.WideShapes.bytes_inj h
section
variable {P : Program} {all : List Oper} {n : Nat} {r : List Oper} {f : Fr} {i : Imm} {L : SH} {K : Fr → Imm → SH → Prop} {dst : Option Nat} {ty : TypeId} {pos : String} {aft : Array Edge} {gd : Option (Nat × Bool)} {T : Tab} {t t2 : Nat} {x y : Operand}
theorem PV.sneq {p q : ByteArray} (hx : ev n f x = .string p) (hy : ev n f y = .string q) : PV P n f ⟨dst, .binOp .neq t x y t2, ty, pos, aft, gd⟩ (.bool (!decide (p = q))) := by
 by_cases h : p = q
 · rw [decide_eq_true h]; exact PV.sneqF hx hy (by rw [h])
 · rw [decide_eq_false h]; exact PV.sneqT hx hy fun e => h (str_inj e)
theorem QS.pvN {K : Fr → Prop} {p : Prop} [Decidable p] {op : Op} (h : PV P n f ⟨dst, op, ty, pos, aft, gd⟩ (.bool (!decide p))) (hg : gok n f all ⟨dst, op, ty, pos, aft, gd⟩ = true)
 (hT : p → QS P all n r (updO f dst (.bool false)) i L K) (hF : ¬ p → QS P all n r (updO f dst (.bool true)) i L K) : QS P all n (⟨dst, op, ty, pos, aft, gd⟩ :: r) f i L K := by
 refine QS.pv h hg ?_
 by_cases hp : p
 · rw [decide_eq_true hp]; exact hT hp
 · rw [decide_eq_false hp]; exact hF hp
theorem QS.callB {K : Fr → Prop} {p : Prop} [Decidable p] {g : FuncId} {as : Array Operand} {ts : Array TypeId} {vs : List Value} (h : FnS P g vs i L fun v _ L' => v = .bool (decide p) ∧ L' = L) (hg : gok n f all ⟨dst, .call ⟨.value (.func g), as, ts⟩, ty, pos, aft, gd⟩ = true) (hf : fnOk P g = true)
 (ha : as.toList.map (ev n f) = vs) (hT : p → QS P all n r (updO f dst (.bool true)) i L K) (hF : ¬ p → QS P all n r (updO f dst (.bool false)) i L K) : QS P all n (⟨dst, .call ⟨.value (.func g), as, ts⟩, ty, pos, aft, gd⟩ :: r) f i L K := by
 refine QS.call h hg hf ha ?_
 by_cases hp : p
 · rw [decide_eq_true hp]; exact hT hp
 · rw [decide_eq_false hp]; exact hF hp
end
theorem Sl.at {i : Imm} {v : Value} {sz n : Nat} {xs : List Value} (h : Sl i v sz n xs) {k : Nat} (hk : k < n) (hsz : 0 < sz) :
 ∃ b o cs t fz cap, v = .slice (some ⟨b, o, none⟩) n cap ∧ i.blk b = some (.cells (List.toArray cs) t fz) ∧ ∀ d, d < sz → cs[o + ((k : Nat) : Int).toNat * sz + d]? = xs[k * sz + d]? := by
 obtain ⟨ao, cap, h1, h2, h3⟩ := h
 have hle : k * sz + sz ≤ n * sz := by
  have := Nat.mul_le_mul_right sz (show k + 1 ≤ n from hk)
  rw [Nat.add_mul, Nat.one_mul] at this; exact this
 rcases h3 with h3 | ⟨b, o, cs, t, fz, h4, h5, h6⟩
 · subst h3
   simp at h2; omega
 · refine ⟨b, o, cs, t, fz, cap, by rw [h1, h4], h5, fun d hd => ?_⟩
   rw [Int.toNat_natCast, Nat.add_assoc]
   exact h6 _ (by rw [h2]; omega)
end Go.Eng
namespace Go.Eng
open Go
def scOk : TypeDesc → Value → Value → Bool
 | .string, .string _, .string _ => true
 | .int _, .int k _, .int k' _ => decide (k = k')
 | .bool, .bool _, .bool _ => true
 | _, _, _ => false
def scEq : Value → Value → Bool
 | .string a, .string b => decide (a = b)
 | .int _ a, .int _ b => decide (a = b)
 | .bool a, .bool b => a == b
 | _, _ => false
def fldsOk (T : Tab) : List Field → Nat → List Value → List Value → Bool
 | [], _, [], [] => true
 | f :: fs, k, x :: xs, y :: ys => !(f.name == "_") && Nat.beq f.offset k && (match tget T f.type with | some e => !isAggD e.desc && scOk e.desc x y | none => false) && fldsOk T fs (k + 1) xs ys
 | _, _, _, _ => false
def allEq : List Value → List Value → Bool
 | x :: xs, y :: ys => scEq x y && allEq xs ys
 | _, _ => true
def stOk (T : Tab) (t : Nat) (xs ys : List Value) : Bool :=
 match tget T t with
 | some ⟨.struct fs, _, _, _⟩ => fldsOk T fs.toList 0 xs ys
 | _ => false
section
variable {P : Program} {T : Tab}
theorem run_scEq {t : TypeId} {d : TypeDesc} {x y : Value} (h : P.underlying t = some d) (hs : scOk d x y = true) (n : Nat) (w : World) : (Op.equalIn (n + 1) t x y).run P w = .ok (scEq x y) w := by
 unfold scOk at hs
 split at hs
 · rename_i a b
   have : (a == b) = decide (a = b) := by
    rw [beq_toListBytes]
    by_cases e : a = b
    · simp [e]
    · rw [decide_eq_false e]
      have : a.toList ≠ b.toList := fun h => e (str_inj h)
      simpa using this
   simp [Op.equalIn, run_underlying h, scEq, this]
 · rename_i k a k' b
   have hk : k = k' := by simpa using hs
   subst hk
   have : (a == b) = decide (a = b) := by
    by_cases e : a = b
    · simp [e]
    · rw [decide_eq_false e]; simpa using e
   simp [Op.equalIn, run_underlying h, scEq, this]
 · simp [Op.equalIn, run_underlying h, scEq]
 · cases hs
theorem run_eqFields (hT : T.ok P) (n : Nat) (w : World) : ∀ (fs : List Field) (k : Nat) (xs ys : List Value) (XS YS : List Value), fldsOk T fs k xs ys = true → XS.drop k = xs → YS.drop k = ys →
 (Op.eqFields (n + 1) XS.toArray YS.toArray fs).run P w = .ok (allEq xs ys) w
 | [], _, xs, ys, XS, YS, h, _, _ => by
   cases xs with
   | nil => simp [Op.eqFields, allEq]
   | cons _ _ => cases ys <;> cases h
 | f :: fs, k, xs, ys, XS, YS, h, hx, hy => by
   cases xs with
   | nil => cases h
   | cons x xs =>
     cases ys with
     | nil => cases h
     | cons y ys =>
       simp only [fldsOk, Bool.and_eq_true] at h
       obtain ⟨⟨⟨h1, h2⟩, h3⟩, h4⟩ := h
       have hk := Nat.eq_of_beq_eq_true h2
       split at h3
       · rename_i e he
         simp only [Bool.and_eq_true, Bool.not_eq_true'] at h3
         have hu := (tget_ok hT he).und
         have gx : XS.toArray[k]? = some x := by
          have := congrArg (·[0]?) hx
          simpa using this
         have gy : YS.toArray[k]? = some y := by
          have := congrArg (·[0]?) hy
          simpa using this
         have hx' : XS.drop (k + 1) = xs := by rw [← List.drop_drop, hx]; rfl
         have hy' : YS.drop (k + 1) = ys := by rw [← List.drop_drop, hy]; rfl
         have ih := run_eqFields hT n w fs (k + 1) xs ys XS YS h4 hx' hy'
         have pa : ∀ (A : Array Value) (a : Value), A[k]? = some a → (part f.type A f.offset).run P w = .ok a w := by
          intro A a hA
          simp [part, run_isAgg hu, h3.1, hk, hA]
         have he' := run_scEq hu h3.2 n w
         have hn : f.name ≠ "_" := by
          intro e0
          rw [e0] at h1
          exact absurd h1 (by decide)
         simp only [Op.eqFields, if_pos hn]
         rw [run_bind' _ _ _ _ _ (pa _ _ gx), run_bind' _ _ _ _ _ (pa _ _ gy), run_bind' _ _ _ _ _ he']
         simp only [allEq]
         cases scEq x y with
         | false => simp
         | true => simpa using ih
       · cases h3
theorem run_stEq (hT : T.ok P) {t : TypeId} {xs ys : List Value} (h : stOk T t xs ys = true) (hp : P.stoodInHeld t = false) (w : World) : (Op.equal t (.agg xs.toArray) (.agg ys.toArray)).run P w = .ok (allEq xs ys) w := by
 unfold stOk at h
 split at h
 · rename_i fs _ _ _ he
   have hu := (tget_ok hT he).und
   have hf : P.fieldsOf t = fs := by unfold Program.fieldsOf; rw [hu]
   have := run_equalIn_struct (P := P) w 9999 t xs.toArray ys.toArray (by rw [hf]; exact hu) hp
   rw [hf] at this
   unfold Op.equal
   rw [show Op.maxDepth = 9999 + 1 from rfl, this]
   exact run_eqFields hT 9998 w fs.toList 0 xs ys xs ys h rfl rfl
 · cases h
variable {n : Nat} {f : Fr} {dst : Option Nat} {ty t t2 : TypeId} {pos : String} {aft : Array Edge} {gd : Option (Nat × Bool)} {x y : Operand} {xs ys : List Value}
theorem PV.stneq (hT : T.ok P) (hp : P.stoodInHeld t = false) (hq : P.eqGuardType P.depth t = false) (hx : ev n f x = .agg xs.toArray) (hy : ev n f y = .agg ys.toArray) (h : stOk T t xs ys = true) : PV P n f ⟨dst, .binOp .neq t x y t2, ty, pos, aft, gd⟩ (.bool (!allEq xs ys)) := by
 unfold PV; intro w; simp [execOp, hx, hy, eqGuard, binOp, run_stEq hT h hp, Result.andThen, hq]
end
section
variable {P : Program} {all : List Oper} {n : Nat} {r : List Oper} {f : Fr} {i : Imm} {L : SH} {dst : Option Nat} {ty : TypeId} {pos : String} {aft : Array Edge} {gd : Option (Nat × Bool)} {T : Tab}
theorem OpS.state {o : Oper} {K K' : Value → Imm → SH → Prop} (h : OpS P n o f i L K) (hk : ∀ v i' L' w, i.le i' → St i' L' w → K v i' L' → ∃ i'' L'', i'.le i'' ∧ St i'' L'' w ∧ K' v i'' L'') : OpS P n o f i L K' := by
 unfold OpS at *
 intro w hw
 exact (h w hw).mono fun v w' ⟨i', L', h1, h2, h3⟩ => let ⟨i'', L'', h4, h5, h6⟩ := hk v i' L' w' h1 h2 h3; ⟨i'', L'', h1.trans h4, h5, h6⟩
theorem OpS.buildSliceF (hT : T.ok P) {t len e sz : Nat} {parts : Array (Nat × Operand)} {cs : List Value} (h : bsl T n f t len parts.toList = some (e, cs)) (hl : cs.length = len * sz) :
 OpS P n ⟨dst, .buildSlice t len parts, ty, pos, aft, gd⟩ f i L fun v i' L' => L' = L ∧ ∃ b, v = .slice (some ⟨b, 0, none⟩) len len ∧ Sl i' v sz len cs := by
 refine OpS.state (OpS.buildSlice (K := fun v i' L' => ∃ b, v = .slice (some ⟨b, 0, none⟩) len len ∧ L' = (b, .cells cs.toArray e (0, 0)) :: L) hT h fun b => ⟨b, rfl, rfl⟩) ?_
 rintro v i' L' w _ hs ⟨b, rfl, rfl⟩
 obtain ⟨h3, h4⟩ := St.freeze hs
 exact ⟨_, L, h3, h4, rfl, b, rfl, some ⟨b, 0, none⟩, len, rfl, hl, .inr ⟨b, 0, cs, e, (0, 0), rfl, by simp [Imm.add], fun j _ => by rw [Nat.zero_add]⟩⟩
theorem RS.buildSliceF {K : Fr → Imm → SH → Prop} (hT : T.ok P) (sz : Nat) {t len e : Nat} {parts : Array (Nat × Operand)} {cs : List Value} (hg : gok n f all ⟨dst, .buildSlice t len parts, ty, pos, aft, gd⟩ = true) (h : bsl T n f t len parts.toList = some (e, cs)) (hl : cs.length = len * sz)
 (k : ∀ b i', i.le i' → Sl i' (.slice (some ⟨b, 0, none⟩) len len) sz len cs → RS P all n r (updO f dst (.slice (some ⟨b, 0, none⟩) len len)) i' L K) : RS P all n (⟨dst, .buildSlice t len parts, ty, pos, aft, gd⟩ :: r) f i L K := by
 refine RS.step hg (OpS.mono (OpS.buildSliceF (sz := sz) hT h hl) ?_)
 rintro v i' L' hi ⟨rfl, b, rfl, hs⟩
 exact k b i' hi hs
end
section
variable {P : Program} {all : List Oper} {n : Nat} {i0 : Imm} {Ls : List SH} {lc : List Nat} {Kont : Kap → Prop} {f : Fr} {F : List (Nat × (Imm → Value → Prop))} {r : List Nat} {k : Nat}
end
end Go.Eng
namespace Go.Eng
open Go
theorem CS.freezeSl {P : Program} {m : Nat} {c : Code} {f : Fr} {i : Imm} {L L0 : SH} {Q : Ex → Fr → Imm → SH → Prop} {e : TypeId} {v : Value} {sz n : Nat} {xs : List Value} {O : SH} (hO : SlO e v sz n xs O) (hL : L.Perm (O ++ L0))
 (h : ∀ i', i.le i' → Sl i' v sz n xs → CS P m c f i' L0 Q) : CS P m c f i L Q :=
 CS.state fun _ hw => let ⟨i', h1, h2, h3⟩ := hO.freeze (hw.perm hL); ⟨i', L0, h1, h2, h i' h1 h3⟩
end Go.Eng
namespace Go.Eng
open Go
def arEl (T : Tab) (t : Nat) : Option Nat :=
 match tget T t with
 | some ⟨.array l e, _, _, _⟩ => match tget T e with
   | some x => bif Nat.beq x.size 1 && !isAggD x.desc then some l else none
   | none => none
 | _ => none
section
variable {P : Program} {n : Nat} {f : Fr} {dst : Option Nat} {ty : TypeId} {pos : String} {aft : Array Edge} {gd : Option (Nat × Bool)} {v : Value} {T : Tab}
theorem PV.indexA (hT : T.ok P) {t l : Nat} {x y : Operand} {cs : List Value} {j : Int} {k : IntKind} (hx : ev n f x = .agg cs.toArray) (hy : ev n f y = .int k j) (hs : arEl T t = some l) (hj : 0 ≤ j ∧ j < l) (hv : cs[j.toNat]? = some v) :
 PV P n f ⟨dst, .index t x y, ty, pos, aft, gd⟩ v := by
 unfold PV; intro w
 unfold arEl at hs
 split at hs
 · rename_i l' e _ _ _ he
   split at hs
   · rename_i x' hx'
     cases hb : (Nat.beq x'.size 1 && !isAggD x'.desc) with
     | false => rw [hb] at hs; cases hs
     | true =>
       rw [hb] at hs
       cases hs
       simp only [Bool.and_eq_true, Bool.not_eq_true'] at hb
       have h1 := Nat.eq_of_beq_eq_true hb.1
       have hu := (tget_ok hT he).und
       obtain ⟨h2, _, ti, z, hi, hsz, _⟩ := tget_ok hT hx'
       simp [execOp, hx, hy, Instr.index, asIntOf, run_underlying hu, hj, sizeOf, run_info hi, hsz, h1, part, run_isAgg h2, hb.2, hv]
   · cases hs
 · cases hs
theorem PV.indexS (hT : T.ok P) {t : Nat} {x y : Operand} {s : ByteArray} {j : Int} {k : IntKind} {b : UInt8} (hx : ev n f x = .string s) (hy : ev n f y = .int k j) (ht : tIs T isStrD t = true) (hj : 0 ≤ j) (hv : s[j.toNat]? = some b) :
 PV P n f ⟨dst, .index t x y, ty, pos, aft, gd⟩ (.int .u8 b.toNat) := by
 unfold PV; intro w
 have hu := tIs_str hT ht
 simp [execOp, hx, hy, Instr.index, asIntOf, run_underlying hu, hj, hv]
end
end Go.Eng
namespace Go.Eng
open Go
theorem RS.freezeSl {P : Program} {all : List Oper} {m : Nat} {r : List Oper} {f : Fr} {i : Imm} {L L0 : SH} {K : Fr → Imm → SH → Prop} {e : TypeId} {v : Value} {sz n : Nat} {xs : List Value} {O : SH} (hO : SlO e v sz n xs O) (hL : L.Perm (O ++ L0))
 (h : ∀ i', i.le i' → Sl i' v sz n xs → RS P all m r f i' L0 K) : RS P all m r f i L K :=
 RS.state fun _ hw => let ⟨i', h1, h2, h3⟩ := hO.freeze (hw.perm hL); ⟨i', L0, h1, h2, h i' h1 h3⟩
end Go.Eng
namespace Go.Eng
open Go
def setS (s : Nat → Bool) (j : Nat) : Nat → Bool := fun k => bif Nat.beq k j then true else s k
theorem setS_same (s : Nat → Bool) (j : Nat) : setS s j j = true := by simp [setS]
theorem setS_ne (s : Nat → Bool) {j k : Nat} (h : k ≠ j) : setS s j k = s k := by
 have : Nat.beq k j = false := by
  cases hb : Nat.beq k j
  · rfl
  · exact absurd (Nat.eq_of_beq_eq_true hb) h
 simp [setS, this]
section
variable {P : Program} {all : List Oper} {n : Nat}
theorem anyWalk {F : Fence} (hF : Wd F) {head tail : List Nat} {Q : Exit → Act → World → Prop} {tops : List Oper} (hok : rgOk all head tail [] = true)
 (htops : tail.map (all.toArray[·]?) = tops.map some) (Inv : (Nat → Bool) → Act → World → Prop)
 (hstep : ∀ (s : Nat → Bool) (j : Nat) (o : Oper) (a : Act) (w : World), j ∈ head → s j = false → all[j]? = some o → (∀ e ∈ o.after, Region.binds .any e = true → s e.on = true) → Inv s a w →
  (if Region.wanted o (yielded all.toArray a.tmps) then o.wpIn F 0 P a w (fun a' w' => Inv (setS s j) a' w') Q else Inv (setS s j) (a.put o.dst undef) w))
 (hend : ∀ a w, Inv (fun k => head.contains k) a w → wpR F P all.toArray Q tops a w) :
 ∀ (fuel : Nat) (listed : Array Bool) (a : Act) (w : World), listed.size = all.length → (∀ t ∈ tail, listed.getD t false = false) →
  (∀ k o, all[k]? = some o → listed.getD k false = true → ∀ e ∈ o.after, Region.binds .any e = true → listed.getD e.on false = true) →
  fuel = (head.filter fun k => !listed.getD k false).length + tail.length → Inv (fun k => listed.getD k false) a w → wpAnyIn F 0 P .any all.toArray Q fuel listed a w := by
 simp only [rgOk, Bool.and_eq_true] at hok
 obtain ⟨⟨⟨⟨⟨hhead, hct⟩, hcl⟩, hcov⟩, hlc⟩, hseq⟩ := hok
 have hhl := okHead_lt _ _ hhead
 have cov : ∀ k, k < all.length → (k ∈ head ∧ k ∉ tail) ∨ (k ∉ head ∧ k ∈ tail) := by
  intro k hk
  have := List.all_eq_true.1 hcov k (List.mem_range.2 hk)
  simpa using this
 have full : (fun k => (headArr all head).getD k false) = fun k => head.contains k := by
  funext k
  by_cases hk : k < all.length
  · simp [headArr, hk]
  · have : head.contains k = false := by
     cases hc : head.contains k with
     | false => rfl
     | true => exact absurd (hhl k (by simpa using hc)) hk
    rw [this]
    simp [headArr, hk]
 intro fuel
 induction fuel with
 | zero =>
   intro listed a w hsz htl hcl2 hf hJ
   have htn : tail = [] := List.length_eq_zero_iff.1 (by omega)
   have hall : ∀ k ∈ head, listed.getD k false = true := by
    intro k hk
    cases hx : listed.getD k false with
    | true => rfl
    | false =>
      have : k ∈ head.filter fun k => !listed.getD k false := List.mem_filter.2 ⟨hk, by simp [hx]⟩
      rw [List.length_eq_zero_iff.1 (show (head.filter fun k => !listed.getD k false).length = 0 by omega)] at this
      cases this
   have hL : listed = headArr all head := by
    apply Array.ext
    · simp [headArr, hsz]
    · intro j h1 h2
      have hj : j < all.length := by omega
      rcases cov j hj with ⟨h3, h4⟩ | ⟨h3, h4⟩
      · have := hall j h3
        simp [h1] at this
        simp [headArr, this, h3]
      · have := htl j h4
        simp [h1] at this
        simp [headArr, this, h3]
   rw [hL] at hJ ⊢
   subst htn
   rw [full] at hJ
   exact wpAny_of_seqI [] _ tops _ _ htops hseq (hend _ _ hJ)
 | succ fuel ih =>
   intro listed a w hsz htl hcl2 hf hJ
   by_cases hall : ∀ k ∈ head, listed.getD k false = true
   · have hL : listed = headArr all head := by
      apply Array.ext
      · simp [headArr, hsz]
      · intro j h1 h2
        have hj : j < all.length := by omega
        rcases cov j hj with ⟨h3, h4⟩ | ⟨h3, h4⟩
        · have := hall j h3
          simp [h1] at this
          simp [headArr, this, h3]
        · have := htl j h4
          simp [h1] at this
          simp [headArr, this, h3]
     have hfil : (head.filter fun k => !listed.getD k false).length = 0 := by
      rw [List.length_eq_zero_iff, List.filter_eq_nil_iff]
      intro k hk; simp only [hall k hk]; decide
     rw [hL] at hJ
     rw [full] at hJ
     rw [show fuel + 1 = tail.length by omega, hL]
     exact wpAny_of_seqI tail _ tops _ _ htops hseq (hend _ _ hJ)
   ·
    have hex : ∃ k, k ∈ head ∧ listed.getD k false = false := by
     rcases Classical.em (∃ k, k ∈ head ∧ listed.getD k false = false) with h | h
     · exact h
     · exact absurd (fun k hk => by cases hx : listed.getD k false with | true => rfl | false => exact absurd ⟨k, hk, hx⟩ h) hall
    have first : ∀ (r pre : List Nat), head = pre ++ r → (∀ k ∈ pre, listed.getD k false = true) → (∃ k ∈ r, listed.getD k false = false) → ∃ pre k post, head = pre ++ k :: post ∧ (∀ j ∈ pre, listed.getD j false = true) ∧ listed.getD k false = false := by
     intro r
     induction r with
     | nil => intro pre _ _ h; obtain ⟨k, hk, _⟩ := h; cases hk
     | cons y r ih2 =>
       intro pre hp hpre hx
       cases hy : listed.getD y false with
       | false => exact ⟨pre, y, r, hp, hpre, hy⟩
       | true =>
         refine ih2 (pre ++ [y]) (by simp [hp]) (fun k hk => ?_) ?_
         · rcases List.mem_append.1 hk with h | h
           · exact hpre k h
           · rw [List.mem_singleton.1 h]; exact hy
         · obtain ⟨k, hk, hkf⟩ := hx
           rcases List.mem_cons.1 hk with rfl | hk
           · rw [hy] at hkf; cases hkf
           · exact ⟨k, hk, hkf⟩
    have getDt : ∀ k, k < all.length → listed.getD k false = false → listed.getD k true = false := fun k hk h => getD_in (by omega) h
    have hne : Region.ready .any all.toArray listed ≠ [] := by
     obtain ⟨pre, k, post, hp, hpre, hk⟩ := first head [] rfl (fun _ h => by cases h) (by obtain ⟨k, h1, h2⟩ := hex; exact ⟨k, h1, h2⟩)
     obtain ⟨o, ho, _, hedge, _⟩ := okOp_pre (okHead_spec _ _ hhead pre k post hp)
     have hr : k ∈ Region.ready .any all.toArray listed := by
      refine mem_ready.2 ⟨getDt k (List.getElem?_eq_some_iff.1 ho).1 hk, o, by simpa using ho, fun e he hb => hpre _ (by simpa using hedge e he hb)⟩
     intro h0; rw [h0] at hr; cases hr
    refine ⟨fun h0 => absurd h0 hne, fun j hj => ?_⟩
    obtain ⟨hjun, oj, hoj, hpreds⟩ := mem_ready.1 hj
    have hoj' : all[j]? = some oj := by simpa using hoj
    have hjl : j < all.length := (List.getElem?_eq_some_iff.1 hoj').1
    have hjf : listed.getD j false = false := getD_both hjun
    rcases cov j hjl with ⟨hjh, hjt⟩ | ⟨hjh, hjt⟩
    ·
     obtain ⟨pre, post, hp⟩ := List.append_of_mem hjh
     have hsz' : (listed.setIfInBounds j true).size = all.length := by simp [hsz]
     have htl' : ∀ t ∈ tail, (listed.setIfInBounds j true).getD t false = false := by
      intro t ht
      rw [getD_set_ne false (by rintro rfl; exact hjt ht)]; exact htl t ht
     have hjset : (listed.setIfInBounds j true).getD j false = true := by
      have : j < listed.size := by omega
      simp [this]
     have hcl' : ∀ k o, all[k]? = some o → (listed.setIfInBounds j true).getD k false = true → ∀ e ∈ o.after, Region.binds .any e = true → (listed.setIfInBounds j true).getD e.on false = true := by
      intro k o hk hl e he hb
      by_cases hjk : j = k
      · subst hjk
        have : o = oj := by rw [hoj'] at hk; exact (Option.some.inj hk).symm
        subst this
        exact getD_set_true (hpreds e he hb)
      · rw [getD_set_ne false hjk] at hl
        exact getD_set_true (hcl2 k o hk hl e he hb)
     have hfuel : fuel = (head.filter fun k => !(listed.setIfInBounds j true).getD k false).length + tail.length := by
      have hnd : (head.filter fun k => !listed.getD k false).length = (head.filter fun k => !(listed.setIfInBounds j true).getD k false).length + 1 := by
       have hjpre : j ∉ pre := by
        have hsp := okHead_spec _ _ hhead pre j post hp
        unfold okOp at hsp
        split at hsp
        · simp only [Bool.and_eq_true, Bool.not_eq_true'] at hsp
          have := hsp.1.2
          simpa using this
        · cases hsp
       have hjpost : j ∉ post := by
        intro hin
        obtain ⟨p1, p2, hpp⟩ := List.append_of_mem hin
        have hsp := okHead_spec _ _ hhead (pre ++ j :: p1) j p2 (by rw [hp, hpp]; simp)
        unfold okOp at hsp
        split at hsp
        · simp only [Bool.and_eq_true, Bool.not_eq_true'] at hsp
          have := hsp.1.2
          simp at this
        · cases hsp
       have same : ∀ l : List Nat, j ∉ l → (l.filter fun k => !(listed.setIfInBounds j true).getD k false) = l.filter fun k => !listed.getD k false := by
        intro l hl
        apply List.filter_congr
        intro k hk
        rw [getD_set_ne false (by rintro rfl; exact hl hk)]
       rw [hp, List.filter_append, List.filter_append, List.filter_cons, List.filter_cons, same pre hjpre, same post hjpost]
       simp only [hjf, hjset]
       simp
       omega
      omega
     have hst := hstep (fun k => listed.getD k false) j oj a w hjh hjf hoj' hpreds hJ
     have hset : (fun k => (listed.setIfInBounds j true).getD k false) = setS (fun k => listed.getD k false) j := by
      funext k
      by_cases hkj : k = j
      · subst hkj
        rw [setS_same, hjset]
      · rw [setS_ne _ hkj, getD_set_ne false (Ne.symm hkj)]
     unfold wpOpIn
     simp only [hoj]
     split at hst
     · rename_i hw
       rw [if_pos hw]
       refine Oper.wpIn_mono (fun a' w' hI => ih _ _ _ hsz' htl' hcl' hfuel ?_) hst
       rw [hset]; exact hI
     · rename_i hw
       rw [if_neg hw]
       refine ⟨fun f' _ => hF.fn f', ih _ _ _ hsz' htl' hcl' hfuel ?_⟩
       rw [hset]; exact hst
    ·
     exfalso
     obtain ⟨q, hq⟩ := List.mem_iff_getElem?.1 hjt
     cases q with
     | succ q =>
       have hqt : q < tail.length := by have := (List.getElem?_eq_some_iff.1 hq).1; omega
       have hq1 : tail[q]? = some tail[q] := List.getElem?_eq_getElem hqt
       have hw := okChain_waits _ hct q tail[q] j hq1 hq
       obtain ⟨o2, ho2, e, he, hb, hon⟩ := waits_spec hw
       have : o2 = oj := by rw [hoj'] at ho2; exact (Option.some.inj ho2).symm
       subst this
       have h1 := hpreds e he hb
       rw [hon, htl tail[q] (List.mem_of_getElem? hq1)] at h1
       cases h1
     | zero =>
       have ht1 : tail.head? = some j := by rw [List.head?_eq_getElem?]; exact hq
       have all1 : ∀ (d : Nat) (pre : List Nat) (k : Nat) (post : List Nat), head = pre ++ k :: post → post.length = d → listed.getD k false = true := by
        intro d
        induction d using Nat.strongRecOn with
        | _ d ih3 =>
          intro pre k post hp hd
          obtain ⟨o, ho, _, _, h5⟩ := okOp_pre (okHead_spec _ _ hhead pre k post hp)
          rcases h5 j ht1 with hw | ⟨k2, hk2, hw⟩
          · obtain ⟨o2, ho2, e, he, hb, hon⟩ := waits_spec hw
            have : o2 = oj := by rw [hoj'] at ho2; exact (Option.some.inj ho2).symm
            subst this
            rw [← hon]; exact hpreds e he hb
          · obtain ⟨p1, p2, hpp⟩ := List.append_of_mem hk2
            have h6 := ih3 p2.length (by rw [← hd, hpp]; simp; omega) (pre ++ k :: p1) k2 p2 (by rw [hp, hpp]; simp) rfl
            obtain ⟨o2, ho2, e, he, hb, hon⟩ := waits_spec hw
            rw [← hon]; exact hcl2 k2 o2 ho2 h6 e he hb
       obtain ⟨k, hk, hkf⟩ := hex
       obtain ⟨pre, post, hp⟩ := List.append_of_mem hk
       have := all1 post.length pre k post hp rfl
       rw [hkf] at this; cases this
theorem CS.drawH {f : Fr} {id : Nat} {i : Imm} {L : SH} {Q : Ex → Fr → Imm → SH → Prop} {tops : List Oper} (hm : P.follows .mixedOrders = true) (head tail : List Nat) (hok : rgOk all head tail [] = true) (htops0 : getAll all tail = some tops)
 (H : (Nat → Bool) → Fr → Imm → SH → Prop) (h0 : H (fun _ => false) f i L)
 (hob : ∀ j ∈ head, ∀ o, all[j]? = some o → ∀ s : Nat → Bool, s j = false → (∀ e ∈ o.after, Region.binds .any e = true → s e.on = true) → ∀ g i' L', i.le i' → H s g i' L' →
  (gok n g all o = true ∧ OpS P n o g i' L' fun v i'' L'' => H (setS s j) (updO g o.dst v) i'' L'') ∨ (gok n g all o = false ∧ H (setS s j) (updO g o.dst undef) i' L'))
 (hend : ∀ g i' L', i.le i' → H (fun k => head.contains k) g i' L' → RS P all n tops g i' L' fun f' i'' L'' => Q .normal f' i'' L'') : CS P n (.region id all.toArray true) f i L Q := by
 unfold CS
 intro Fc hFc ds w hw R hR
 refine wpIn_region_any hm ?_
 have htops := getAll_spec tail tops htops0
 have hrep : ∀ (m j : Nat), (Array.replicate m false).getD j false = false := getD_replicate_false
 have hhead : okHead all tail.head? [] head = true := by
  simp only [rgOk, Bool.and_eq_true] at hok
  exact hok.1.1.1.1.1
 have hcount : all.length = (head.filter fun k => !(Array.replicate all.length false).getD k false).length + tail.length := by
  have h1 : (head.filter fun k => !(Array.replicate all.length false).getD k false) = head := by
   rw [List.filter_eq_self]
   intro k _; simp only [hrep]; decide
  rw [h1]
  simp only [rgOk, Bool.and_eq_true] at hok
  obtain ⟨⟨⟨⟨⟨_, _⟩, _⟩, hcov⟩, _⟩, hseq⟩ := hok
  have htn : ∀ (ts : List Nat) (listed : Array Bool), seqI all.toArray ts listed = true → ts.Nodup ∧ ∀ t ∈ ts, t < all.length ∧ listed.getD t true = false := by
   intro ts
   induction ts with
   | nil => intro _ _; exact ⟨List.nodup_nil, fun t ht => by cases ht⟩
   | cons t ts ih =>
     intro listed hs
     simp only [seqI, Bool.and_eq_true, decide_eq_true_eq] at hs
     have hr : t ∈ Region.ready .any all.toArray listed := by rw [hs.1]; simp
     obtain ⟨h2, o, ho, _⟩ := mem_ready.1 hr
     obtain ⟨i1, i2⟩ := ih _ hs.2
     have htl : t < all.length := by
      have := (Array.getElem?_eq_some_iff.1 ho).1; simpa using this
     refine ⟨List.nodup_cons.2 ⟨fun hin => ?_, i1⟩, fun x hx => ?_⟩
     · have := (i2 t hin).2
       by_cases hsz : t < listed.size
       · simp [hsz] at this
       · simp [hsz] at h2
     · rcases List.mem_cons.1 hx with rfl | hx
       · exact ⟨htl, h2⟩
       · refine ⟨(i2 x hx).1, ?_⟩
         have h3 := (i2 x hx).2
         by_cases hxt : t = x
         · subst hxt; exact h2
         · rwa [getD_set_ne true hxt] at h3
  have hhn : head.Nodup := by
   have : ∀ (r b : List Nat), okHead all tail.head? b r = true → r.Nodup := by
    intro r
    induction r with
    | nil => intro _ _; exact List.nodup_nil
    | cons x r ih =>
      intro b hb
      simp only [okHead, Bool.and_eq_true] at hb
      exact List.nodup_cons.2 ⟨fun hin => okHead_notin _ _ hb.2 x hin (by simp), ih _ hb.2⟩
   exact this head [] hhead
  obtain ⟨t1, t2⟩ := htn tail _ hseq
  have hperm : (head ++ tail).Perm (List.range all.length) := by
   refine (List.perm_ext_iff_of_nodup (List.nodup_append.2 ⟨hhn, t1, fun a ha b hb e => ?_⟩) List.nodup_range).2 fun k => ?_
   · subst e
     have := List.all_eq_true.1 hcov a (List.mem_range.2 (okHead_lt _ _ hhead a ha))
     simp [ha, hb] at this
   · rw [List.mem_append, List.mem_range]
     constructor
     · rintro (hk | hk)
       · exact okHead_lt _ _ hhead k hk
       · exact (t2 k hk).1
     · intro hk
       have := List.all_eq_true.1 hcov k (List.mem_range.2 hk)
       simp at this
       rcases this with h | h
       · exact .inl h.1
       · exact .inr h.2
  have := hperm.length_eq
  simp at this
  omega
 have := anyWalk (P := P) hFc (Q := R) (tops := tops) hok htops (fun s a w => ∃ g i' L', a = ofD n ds g ∧ i.le i' ∧ St i' L' w ∧ H s g i' L') (fun s j o a w' hj hs ho hp hI => by
  obtain ⟨g, i', L', rfl, hi, hst, hH⟩ := hI
  rw [gok_eq]
  rcases hob j hj o ho s hs hp g i' L' hi hH with ⟨hg, hop⟩ | ⟨hg, hH'⟩
  · rw [if_pos hg]
    exact hop.use hFc ds w' hst _ _ fun v i'' L'' w'' hi' hs' hH'' => ⟨_, i'', L'', rfl, hi.trans hi', hs', hH''⟩
  · rw [if_neg (by rw [hg]; decide), ofD_put]
    exact ⟨_, i', L', rfl, hi, hst, hH'⟩) (fun a w' hI => by
  obtain ⟨g, i', L', rfl, hi, hst, hH⟩ := hI
  have := hend g i' L' hi hH
  unfold RS at this
  exact this Fc hFc ds w' hst R fun f' i'' L'' w'' hi' hs' q => hR .normal f' i'' L'' w'' (hi.trans hi') hs' q) all.length (Array.replicate all.length false) (ofD n ds f) { w with drawn := w.drawn + 1 } (by simp) (fun t _ => hrep _ t)
  (fun k o _ hl => by rw [hrep] at hl; cases hl) hcount ⟨f, i, L, rfl, Imm.le.refl i, hw.drew, by
   have : (fun k => (Array.replicate all.length false).getD k false) = fun _ => false := funext fun k => hrep _ k
   rw [this]; exact h0⟩
 simpa using this
end
end Go.Eng
namespace Go.Eng
open Go
def memB (a : ByteArray) (l : List ByteArray) : Bool := l.any fun x => decide (a = x)
theorem memB_iff {a : ByteArray} {l : List ByteArray} : memB a l = true ↔ a ∈ l := by
 unfold memB
 rw [List.any_eq_true]
 constructor
 · rintro ⟨x, h1, h2⟩
   rw [of_decide_eq_true h2]; exact h1
 · intro h
   exact ⟨a, h, decide_eq_true rfl⟩
instance memDec (a : ByteArray) (l : List ByteArray) : Decidable (a ∈ l) := decidable_of_iff (memB a l = true) memB_iff
theorem beq_str (a b : ByteArray) : (a == b) = decide (a = b) := by
 rw [beq_toListBytes]
 by_cases e : a = b
 · simp [e]
 · rw [decide_eq_false e]
   have : a.toList ≠ b.toList := fun h => e (str_inj h)
   simpa using this
section
variable {P : Program} {n : Nat} {f : Fr} {i : Imm} {L : SH} {K : Value → Imm → SH → Prop} {dst : Option Nat} {ty : TypeId} {pos : String} {aft : Array Edge} {gd : Option (Nat × Bool)} {T : Tab}
end
section
variable {P : Program} {all : List Oper} {n : Nat} {r : List Oper} {f : Fr} {i : Imm} {L : SH} {K : Fr → Imm → SH → Prop} {dst : Option Nat} {ty : TypeId} {pos : String} {aft : Array Edge} {gd : Option (Nat × Bool)} {T : Tab}
end
end Go.Eng
namespace Go.Eng
open Go
section
variable {P : Program} {n : Nat} {f : Fr} {i : Imm} {L : SH} {dst : Option Nat} {ty : TypeId} {pos : String} {aft : Array Edge} {gd : Option (Nat × Bool)} {t t2 : Nat} {x y : Operand} {T : Tab}
theorem PV.slss {p q : ByteArray} (hx : ev n f x = .string p) (hy : ev n f y = .string q) : PV P n f ⟨dst, .binOp .lss t x y t2, ty, pos, aft, gd⟩ (.bool (decide (Op.bytesLess p.toList q.toList = true))) := by
 unfold PV; intro w
 simp [execOp, hx, hy, eqGuard, binOp, Op.stringOp]
def bytesOf : List Value → ByteArray → Option ByteArray
 | [], s => some s
 | .int .u8 k :: l, s => bytesOf l (s.push (UInt8.ofNat k.toNat))
 | _ :: _, _ => none
theorem bytesOf_some : ∀ (l : List Value) (s : ByteArray), (∀ c ∈ l, ∃ k, c = .int .u8 k) → ∃ r, bytesOf l s = some r ∧ r.size = s.size + l.length
 | [], s, _ => ⟨s, rfl, rfl⟩
 | c :: l, s, h => by
   obtain ⟨k, rfl⟩ := h c (by simp)
   obtain ⟨r, h1, h2⟩ := bytesOf_some l (s.push (UInt8.ofNat k.toNat)) fun c hc => h c (by simp [hc])
   exact ⟨r, h1, by rw [h2, ByteArray.size_push]; simp; omega⟩
theorem run_bytes (w : World) (g : Value → ByteArray → Sem (ForInStep ByteArray)) (hg : ∀ k s, g (.int .u8 k) s = pure (ForInStep.yield (s.push (UInt8.ofNat k.toNat)))) : ∀ (l : List Value) (s r : ByteArray), bytesOf l s = some r → (forIn (m := Sem) l s g).run P w = .ok r w
 | [], s, r, h => by cases h; simp
 | c :: l, s, r, h => by
   unfold bytesOf at h
   split at h
   · rename_i hq; cases hq
   · rename_i k l' s' hq
     cases hq
     rw [List.forIn_cons, hg]
     simp only [Sem.run_bind, Sem.run_pure, Result.andThen_ok]
     exact run_bytes w g hg l _ r h
   · cases h
end
end Go.Eng
namespace Go.Eng
open Go
def YieldS (P : Program) (l : Nat) (vs : List Value) (i : Imm) (L : SH) (Post : Bool → Imm → SH → Prop) : Prop :=
 ∀ w, St i L w → YieldAt Fence.wide 0 P l vs.toArray w fun e w' => ∃ b i' L', e = .returned (.bool b) ∧ i.le i' ∧ St i' L' w' ∧ Post b i' L'
section
variable {P : Program} {all : List Oper} {n : Nat} {r : List Oper} {f : Fr} {i : Imm} {L : SH} {dst : Option Nat} {ty : TypeId} {pos : String} {aft : Array Edge} {gd : Option (Nat × Bool)}
theorem OpS.yield {K : Value → Imm → SH → Prop} {l : Nat} {x : Operand} {as : Array Operand} {ts : Array TypeId} {vs : List Value} {Post : Bool → Imm → SH → Prop} (hx : ev n f x = .func (.yield l) #[] #[]) (ha : as.toList.map (ev n f) = vs) (h : YieldS P l vs i L Post)
 (k : ∀ b i' L', i.le i' → Post b i' L' → K (.bool b) i' L') : OpS P n ⟨dst, .call ⟨.value x, as, ts⟩, ty, pos, aft, gd⟩ f i L K := by
 unfold OpS
 intro w hw
 obtain ⟨fn, tmps, assign, body, hy, hr⟩ := h w hw
 have h1 : as.map (ev n f) = vs.toArray := by rw [← ha]; exact Array.ext' (by simp)
 have h2 : (execOp (ev n f) ⟨dst, .call ⟨.value x, as, ts⟩, ty, pos, aft, gd⟩).run P w = .ok (.round l fn tmps assign body) w := by
  simp [execOp, resolve, h1, hx, Deferred.ofValue, invoke, hy]
 rw [h2]
 exact hr.mono fun e w' ⟨b, i', L', he, hi, hs, hp⟩ => ⟨.bool b, he, i', L', hi, hs, k b i' L' hi hp⟩
end
def updP (f : Fr) : List Nat → List Value → Fr
 | p :: ps, v :: vs => updP (upd f p v) ps vs
 | _, _ => f
theorem updP_eq (n : Nat) (ds : List Deferred) : ∀ (ps : List Nat) (vs : List Value) (f : Fr), (ps.zip vs).foldl (fun tmps (t, a) => tmps.setIfInBounds t a) (ofD n ds f).tmps = (ofD n ds (updP f ps vs)).tmps
 | [], _, _ => rfl
 | _ :: _, [], _ => rfl
 | p :: ps, v :: vs, f => by
   simp only [List.zip_cons_cons, List.foldl_cons, updP]
   have : (ofD n ds f).tmps.setIfInBounds p v = (ofD n ds (upd f p v)).tmps := congrArg Act.tmps (ofD_put n ds f (some p) v)
   rw [this]
   exact updP_eq n ds ps vs _
def loopR (fn : FuncId) (n : Nat) (f : Fr) (ps : Array Tmp) (assign body : Code) (dfr : Nat) (s : LoopState) : Obj :=
 .loop { state := s, pending := none, fn, tmps := (ofF n f).tmps, params := ps, assign, body, defers := dfr }
theorem set_mid {α : Type} (A B : List α) (x y : α) : (A ++ x :: B).set A.length y = A ++ y :: B := by
 induction A with
 | nil => rfl
 | cons a A ih => simp [ih]
theorem get_mid {α : Type} (A B : List α) (x : α) : (A ++ x :: B)[A.length]? = some x := by simp
theorem St.putMid {i : Imm} {A B : SH} {w : World} {b : Nat} {o o' : Obj} (h : St i (A ++ (b, o) :: B) w) : w.heap[b]? = some o ∧ St i (A ++ (b, o') :: B) (w.putObj b o') := by
 have hb : w.heap[b]? = some o := h.own (b, o) (by simp)
 refine ⟨hb, ?_⟩
 have := h.put (w' := w.putObj b o') (o' := o') (get_mid A B (b, o)) rfl rfl rfl (fun c => by
  by_cases hc : c = b
  · subst hc
    rw [if_pos rfl]
    exact World.putObj_heap_same (Array.getElem?_eq_some_iff.1 hb).1
  · rw [if_neg hc, World.putObj_heap_other hc])
 rwa [set_mid] at this
section
variable {P : Program} {n : Nat} {f : Fr} {i : Imm} {L R : SH}
end
def mark (r : Nat) : Deferred := { target := .collected r, args := #[] }
def dblk (r : Nat) : Nat × Obj := (r, .deferred (some []))
section
variable {P : Program} {n : Nat} {ds : List Deferred} {c x y : Code} {f : Fr} {i : Imm} {L : SH} {Q : List Deferred → Ex → Fr → Imm → SH → Prop}
end
end Go.Eng
namespace Go.Eng
open Go
section
variable {P : Program} {n : Nat} {f : Fr} {i : Imm} {L : SH} {K : Value → Imm → SH → Prop} {dst : Option Nat} {ty : TypeId} {pos : String} {aft : Array Edge} {gd : Option (Nat × Bool)} {T : Tab}
theorem St.setBlock {i : Imm} {L : SH} {w : World} {k b : Nat} {o : Obj} (o' : Obj) (h : St i L w) (hk : L[k]? = some (b, o)) : St i (L.set k (b, o')) (ChangeMaps.setBlock w b o') := by
 have h7 := h.own _ (List.mem_of_getElem? hk)
 refine h.put hk rfl rfl rfl fun x => ?_
 show (w.heap.setIfInBounds b _)[x]? = _
 rw [Array.getElem?_setIfInBounds]
 have hlt : b < w.heap.size := (Array.getElem?_eq_some_iff.1 h7).1
 by_cases hxb : b = x
 · subst hxb
   rw [if_pos rfl, if_pos hlt, if_pos rfl]
 · rw [if_neg hxb, if_neg (fun e => hxb e.symm)]
end
section
variable {P : Program} {all : List Oper} {n : Nat} {r : List Oper} {f : Fr} {i : Imm} {L : SH} {K : Fr → Imm → SH → Prop} {dst : Option Nat} {ty : TypeId} {pos : String} {aft : Array Edge} {gd : Option (Nat × Bool)} {T : Tab}
end
end Go.Eng
namespace Go.Eng
open Go
def isIntD : TypeDesc → Bool
 | .int _ => true
 | _ => false
section
variable {P : Program} {n : Nat} {f : Fr} {i : Imm} {L : SH} {K : Value → Imm → SH → Prop} {dst : Option Nat} {ty : TypeId} {pos : String} {aft : Array Edge} {gd : Option (Nat × Bool)} {T : Tab}
theorem PV.capS (hT : T.ok P) {t : Nat} {x : Operand} {a : Option Addr} {l c : Nat} (ht : tIs T isSlD t = true) (hx : ev n f x = .slice a l c) :
 PV P n f ⟨dst, .call ⟨.builtin .cap, #[x], #[t]⟩, ty, pos, aft, gd⟩ (.int .i64 c) := by
 unfold PV; intro w; obtain ⟨e, he⟩ := tIs_sl hT ht; simp [execOp, resolve, invoke, builtin, Builtin.cap_, hx, run_underlying he, goInt]
theorem PV.sliceHi (hT : T.ok P) {t sz l c : Nat} {x y : Operand} {a : Option Addr} {j : Int} {k : IntKind} (hx : ev n f x = .slice a l c) (hy : ev n f y = .int k j) (hs : elSz T t = some sz) (ha : a = none ∨ ∃ b o, a = some ⟨b, o, none⟩) (h : 0 ≤ j ∧ j ≤ c) :
 PV P n f ⟨dst, .slice t x none (some y) none, ty, pos, aft, gd⟩ (.slice a j.toNat c) := by
 unfold PV; intro w
 obtain ⟨e, i, z, x', h1, h2, h3, h4, _⟩ := elSz_ok hT hs
 rcases ha with rfl | ⟨b, o, rfl⟩
 · simp [execOp, hx, hy, Instr.sliceAt, Instr.slice, Instr.sliceBounds, Instr.sliceBound, asIntOf, run_underlying h1, h, sizeOf, run_info h2]
 · simp [execOp, hx, hy, Instr.sliceAt, Instr.slice, Instr.sliceBounds, Instr.sliceBound, asIntOf, run_underlying h1, h, sizeOf, run_info h2, Addr.add_none]
theorem OpS.appendZ (hT : T.ok P) {t t1 e sz bytes m : Nat} {k : IntKind} {x y : Operand} (hx : ev n f x = .slice none 0 0) (hy : ev n f y = .int k (m : Int)) (hte : ∃ d, tget T t = some d ∧ d.desc = .slice e) (hti : tIs T isIntD t1 = true) (hee : ∃ d, tget T e = some d ∧ d.size = sz ∧ d.bytes = bytes) (hsz : 0 < sz)
 (hm : 0 < m) (hmax : m * bytes ≤ 140737488355328) (hmax2 : m ≤ 9223372036854775807)
 (h : ∀ b cap cs, m ≤ cap → cs.length = cap * sz → K (.slice (some ⟨b, 0, none⟩) m cap) i ((b, .cells (List.toArray cs) e (0, 0)) :: L)) : OpS P n ⟨dst, .call ⟨.builtin .append, #[x, y], #[t, t1]⟩, ty, pos, aft, gd⟩ f i L K := by
 obtain ⟨d1, ht, hd⟩ := hte
 obtain ⟨d2, he, hes, heb⟩ := hee
 have hu1 := (tget_ok hT ht).und
 rw [hd] at hu1
 obtain ⟨_, hzl, ti, z, hi, hs, hb, hz, hzc⟩ := tget_ok hT he
 have hzs : z.cells.size = sz := by rw [hzc, List.size_toArray, hzl, hes]
 rw [hes] at hs
 rw [heb] at hb
 obtain ⟨kk, hu2⟩ : ∃ kk, P.underlying t1 = some (.int kk) := by
  unfold tIs at hti
  split at hti
  · rename_i x hx
    have h1 := (tget_ok hT hx).und
    cases hd : x.desc <;> rw [hd] at hti <;> first | (cases hti; done) | exact ⟨_, by rw [h1, hd]⟩
  · cases hti
 refine OpS.valueW fun w hw => ?_
 have hw1 : IntKind.i64.wrap (m : Int) = m := wrap_in _ (by omega)
 have hge := grownCap_ge w m 0 e
 have h48' : ¬ (281474976710656 < Builtin.nextslicecap m 0 * ti.bytes) := by rw [nextslicecap_zero hm, hb]; omega
 have h47 : (m : Int) * (ti.bytes : Int) ≤ 140737488355328 := by
  rw [hb, ← Int.natCast_mul]; omega
 have h48 : ¬ (281474976710656 < (m : Int) * (ti.bytes : Int)) := by omega
 have h63 : ¬ (9223372036854775807 < (m : Int)) := by omega
 have hm0 : ¬ m = 0 := by omega
 have hneg : ¬ (m : Int) < 0 := by omega
 have hms : ¬ m * sz = 0 := fun h0 => by have := Nat.mul_pos hm hsz; omega
 have hr : (Builtin.append_ #[t, t1] ty #[.slice none 0 0, .int k (m : Int)]).run P w =
  .ok (.slice (some ⟨w.heap.size, 0, none⟩) m (grownCap w m 0 e)) (w.drew.alloc (.cells (Builtin.zeroCells z.cells m ++ Builtin.zeroCells z.cells (grownCap w m 0 e - m)) e)) := by
  simp [Builtin.append_, run_underlying hu1, run_underlying hu2, sizeOf, typeInfo, zeroValue, hi, hz, asInt, asIntOf, hw1, h48, h48', h63, hm0, hs, hneg, hms, Question.forced, run_firstCells_none, newRow, grownCap]
 obtain ⟨arr, harr⟩ : ∃ arr, arr = Builtin.zeroCells z.cells m ++ Builtin.zeroCells z.cells (grownCap w m 0 e - m) := ⟨_, rfl⟩
 rw [← harr] at hr
 refine ⟨_, w.drew.alloc (.cells arr e), i, (w.heap.size, .cells arr e) :: L, by simp [execOp, resolve, hx, hy, invoke, builtin, hr]; rfl, Imm.le.refl i, St.push (w := w.drew) hw.drew rfl rfl rfl rfl, ?_⟩
 subst harr
 refine h w.heap.size (grownCap w m 0 e) (Builtin.zeroCells z.cells m ++ Builtin.zeroCells z.cells (grownCap w m 0 e - m)).toList hge ?_
 rw [Array.length_toList, Array.size_append, size_zeroCells, size_zeroCells, hzs, ← Nat.add_mul]
 congr 1; omega
end
section
variable {P : Program} {all : List Oper} {n : Nat} {r : List Oper} {f : Fr} {i : Imm} {L : SH} {K : Fr → Imm → SH → Prop} {dst : Option Nat} {ty : TypeId} {pos : String} {aft : Array Edge} {gd : Option (Nat × Bool)} {T : Tab}
theorem RS.appendZ (hT : T.ok P) {t t1 e sz bytes m : Nat} {k : IntKind} {x y : Operand} (hg : gok n f all ⟨dst, .call ⟨.builtin .append, #[x, y], #[t, t1]⟩, ty, pos, aft, gd⟩ = true) (hx : ev n f x = .slice none 0 0) (hy : ev n f y = .int k (m : Int)) (hte : ∃ d, tget T t = some d ∧ d.desc = .slice e) (hti : tIs T isIntD t1 = true) (hee : ∃ d, tget T e = some d ∧ d.size = sz ∧ d.bytes = bytes) (hsz : 0 < sz)
 (hm : 0 < m) (hmax : m * bytes ≤ 140737488355328) (hmax2 : m ≤ 9223372036854775807)
 (h : ∀ b cap cs, m ≤ cap → cs.length = cap * sz → RS P all n r (updO f dst (.slice (some ⟨b, 0, none⟩) m cap)) i ((b, .cells (List.toArray cs) e (0, 0)) :: L) K) : RS P all n (⟨dst, .call ⟨.builtin .append, #[x, y], #[t, t1]⟩, ty, pos, aft, gd⟩ :: r) f i L K :=
 RS.step hg (OpS.appendZ hT hx hy hte hti hee hsz hm hmax hmax2 h)
end
end Go.Eng
namespace Go.Eng
open Go
theorem SlO.addr {e : TypeId} {ao : Option Addr} {sz n cap : Nat} {xs : List Value} {O : SH} (h : SlO e (.slice ao n cap) sz n xs O) : n ≤ cap ∧ ((ao = none ∧ n = 0 ∧ cap = 0) ∨ ∃ g, ao = some ⟨g, 0, none⟩) := by
 obtain ⟨_, ⟨hv, rfl, _⟩ | ⟨g, c, sp, hv, h2, _⟩⟩ := h
 · cases hv; exact ⟨Nat.le_refl _, .inl ⟨rfl, rfl, rfl⟩⟩
 · cases hv; exact ⟨h2, .inr ⟨g, rfl⟩⟩
def tailA (ao : Option Addr) (cap k sz : Nat) : Option Addr := ao.map fun a => if cap = k then a else ⟨a.block, a.off + k * sz, none⟩
section
variable {P : Program} {n : Nat} {f : Fr} {i : Imm} {L : SH} {K : Value → Imm → SH → Prop} {dst : Option Nat} {ty : TypeId} {pos : String} {aft : Array Edge} {gd : Option (Nat × Bool)} {T : Tab}
theorem PV.sliceLoA (hT : T.ok P) {t sz l c j : Nat} {ao : Option Addr} {x y : Operand} {k : IntKind} (hx : ev n f x = .slice ao l c) (hy : ev n f y = .int k (j : Int)) (hs : elSz T t = some sz) (ha : (ao = none ∧ l = 0 ∧ c = 0) ∨ ∃ g, ao = some ⟨g, 0, none⟩) (h : j ≤ l) :
 PV P n f ⟨dst, .slice t x (some y) none none, ty, pos, aft, gd⟩ (.slice (tailA ao c j sz) (l - j) (c - j)) := by
 unfold PV; intro w
 obtain ⟨e, i, z, x', h1, h2, h3, h4, _⟩ := elSz_ok hT hs
 rcases ha with ⟨rfl, rfl, rfl⟩ | ⟨g, rfl⟩
 · have : j = 0 := by omega
   subst this
   simp [execOp, hx, hy, Instr.sliceAt, Instr.slice, Instr.sliceBounds, Instr.sliceBound, asIntOf, run_underlying h1, sizeOf, run_info h2, tailA]
 · have hj : (0 : Int) ≤ (j : Int) ∧ (j : Int) ≤ (l : Int) := by omega
   by_cases hc : c = j
   · simp [execOp, hx, hy, Instr.sliceAt, Instr.slice, Instr.sliceBounds, Instr.sliceBound, asIntOf, run_underlying h1, hj, sizeOf, run_info h2, hc, tailA, h]
   · simp [execOp, hx, hy, Instr.sliceAt, Instr.slice, Instr.sliceBounds, Instr.sliceBound, asIntOf, run_underlying h1, hj, sizeOf, run_info h2, hc, h3, tailA, Addr.add_none, h]
theorem OpS.appendF (hT : T.ok P) {t e sz bytes : Nat} {x y : Operand} {u v : Value} {b o k m : Nat} {xs news : List Value} (hx : ev n f x = v) (hvv : v = .slice (some ⟨b, o, none⟩) k k) (hy : ev n f y = u) (hte : ∃ d, tget T t = some d ∧ d.desc = .slice e) (hee : ∃ d, tget T e = some d ∧ d.size = sz ∧ d.bytes = bytes) (hsz : 0 < sz)
 (hv : Sl i v sz k xs) (hk0 : 0 < k) (hu : Rd i L u sz m news) (hmax : (k + m) * bytes ≤ 140737488355328) (hmax2 : k + m ≤ 9223372036854775807)
 (h : ∀ v' i', i.le i' → Sl i' v' sz (k + m) (xs ++ news) → K v' i' L) : OpS P n ⟨dst, .call ⟨.builtin .append, #[x, y], #[t, t]⟩, ty, pos, aft, gd⟩ f i L K := by
 subst hvv
 obtain ⟨d1, ht, hd⟩ := hte
 obtain ⟨d2, he, hes, heb⟩ := hee
 have hu1 := (tget_ok hT ht).und
 rw [hd] at hu1
 obtain ⟨_, hzl, ti, z, hi, hs, hb, hz, hzc⟩ := tget_ok hT he
 have hzs : z.cells.size = sz := by rw [hzc, List.size_toArray, hzl, hes]
 rw [hes] at hs
 rw [heb] at hb
 obtain ⟨uo, uc, rfl, hul, hur⟩ := hu
 obtain ⟨va, vc, hve, hvl, hvr⟩ := id hv
 cases hve
 refine OpS.valueW fun w hw => ?_
 have hex : ∀ r w', (Builtin.append_ #[t, t] ty #[.slice (some ⟨b, o, none⟩) k k, .slice uo m uc]).run P w = .ok r w' → (execOp (ev n f) ⟨dst, .call ⟨.builtin .append, #[x, y], #[t, t]⟩, ty, pos, aft, gd⟩).run P w = .ok (.value r) w' := by
  intro r w' hr
  simp [execOp, resolve, hx, hy, invoke, builtin, hr]
 by_cases hm : m = 0
 · subst hm
   have hn : news = [] := List.eq_nil_of_length_eq_zero (by simpa using hul)
   subst hn
   exact ⟨_, w, i, L, hex _ _ (run_append_zero w hu1 hi _ k k (Nat.le_refl _) uo uc), Imm.le.refl i, hw, h _ i (Imm.le.refl i) (by simpa using hv)⟩
 · have hne : news ≠ [] := by
    intro h0
    rw [h0] at hul
    have : 0 < m * sz := Nat.mul_pos (by omega) hsz
    simp at hul; omega
   have hnx : xs ≠ [] := by
    intro h0
    rw [h0] at hvl
    have : 0 < k * sz := Nat.mul_pos hk0 hsz
    simp at hvl; omega
   obtain ⟨b2, o2, cs2, tt2, fz2, rfl, hbl2, hcell2⟩ := hur.resolve_left hne
   obtain ⟨b3, o3, cs3, tt3, fz3, he3, hbl3, hcell3⟩ := hvr.resolve_left hnx
   cases he3
   have hnews : ∀ j c, news[j]? = some c → w.cell? ((⟨b2, o2, none⟩ : Addr).add j) = some c := by
    intro j c hj
    rw [Addr.add_none, cell_at (hbl2.block hw), hcell2 j (List.getElem?_eq_some_iff.1 hj).1, hj]
   have holds : ∀ j c, xs[j]? = some c → w.cell? ((⟨b, o, none⟩ : Addr).add j) = some c := by
    intro j c hj
    rw [Addr.add_none, cell_at (hw.imm _ _ hbl3), hcell3 j (List.getElem?_eq_some_iff.1 hj).1, hj]
   have hr := run_append_grow (P := P) (ty := ty) w t e ti z hu1 hi hz ⟨b, o, none⟩ k k xs (by rw [hs]; exact hvl) holds ⟨b2, o2, none⟩ m uc news (by rw [hs]; exact hul) hnews (by omega) (by omega) (by rw [hb]; exact growslice_fits (by omega) hmax)
   obtain ⟨arr, harr⟩ : ∃ arr, arr = xs.toArray ++ news.toArray ++ Builtin.zeroCells z.cells (grownCap w (k + m) k e - (k + m)) := ⟨_, rfl⟩
   rw [← harr] at hr
   have hS : St i ((w.heap.size, .cells arr e (0, 0)) :: L) (w.drew.alloc (.cells arr e (0, 0))) := St.push (w := w.drew) hw.drew rfl rfl rfl rfl
   obtain ⟨f1, f2⟩ := hS.freeze
   refine ⟨_, _, _, L, hex _ _ hr, f1, f2, h _ _ f1 ?_⟩
   have hlen : (xs ++ news).length = (k + m) * sz := by rw [List.length_append, hvl, hul, Nat.add_mul]
   refine ⟨_, _, rfl, hlen, .inr ⟨w.heap.size, 0, arr.toList, e, (0, 0), rfl, by simp [Imm.add], fun j hj => ?_⟩⟩
   rw [harr]
   simp only [Array.toList_append, Nat.zero_add]
   rw [List.getElem?_append_left (by simpa using hj)]
end
end Go.Eng
namespace Go.Eng
open Go
def okOpW (all : List Oper) (k : Nat) (before later : List Nat) (t1 : Option Nat) : Bool :=
 match all[k]? with
 | some o =>
   ((o.looksAt all.toArray).all fun t => (List.range all.length).all fun j => !dstIs all j t || (before.contains j && waits all k j) || (later.contains j && waits all j k && before.all fun m => !dstIs all m t) || !(before.contains j || later.contains j)) &&
   (match o.dst with
    | some d => !((o.looksAt all.toArray).contains d) && (later.all fun j => !dstIs all j d)
    | none => true) &&
   (o.after.toList.all fun e => !Region.binds .any e || before.contains e.on) &&
   !before.contains k &&
   (match t1 with
    | some t => waits all t k || later.any (fun j => waits all j k)
    | none => true)
 | none => false
def okHeadW (all : List Oper) (t1 : Option Nat) : List Nat → List Nat → Bool
 | _, [] => true
 | before, k :: later => okOpW all k before later t1 && okHeadW all t1 (before ++ [k]) later
def rgOkW (all : List Oper) (head tail lc : List Nat) : Bool :=
 okHeadW all tail.head? [] head && okChain all tail && okChain all lc && okCover all head tail && lc.all (head.contains ·) && seqI all.toArray tail (headArr all head)
section
variable {P : Program} {all : List Oper} {n : Nat}
theorem okHeadW_lt {t1 : Option Nat} : ∀ (r b : List Nat), okHeadW all t1 b r = true → ∀ x ∈ r, x < all.length := by
 intro r
 induction r with
 | nil => intro b _ x hx; cases hx
 | cons y r ih2 =>
   intro b hb x hx
   simp only [okHeadW, Bool.and_eq_true] at hb
   rcases List.mem_cons.1 hx with rfl | hx
   · have := hb.1
     unfold okOpW at this
     split at this
     · rename_i hy; exact (List.getElem?_eq_some_iff.1 hy).1
     · cases this
   · exact ih2 _ hb.2 x hx
theorem okHeadW_notin {t1 : Option Nat} : ∀ (r b : List Nat), okHeadW all t1 b r = true → ∀ x ∈ r, x ∉ b := by
 intro r
 induction r with
 | nil => intro b _ x hx; cases hx
 | cons y r ih2 =>
   intro b hb x hx hxb
   simp only [okHeadW, Bool.and_eq_true] at hb
   rcases List.mem_cons.1 hx with rfl | hx
   · have := hb.1
     unfold okOpW at this
     split at this
     · simp only [Bool.and_eq_true, Bool.not_eq_true'] at this
       have h6 := this.1.2
       simp [hxb] at h6
     · cases this
   · exact ih2 _ hb.2 x hx (List.mem_append_left _ hxb)
theorem okHeadW_spec {t1 : Option Nat} : ∀ (r b : List Nat), okHeadW all t1 b r = true → ∀ (pre : List Nat) (k : Nat) (post : List Nat), r = pre ++ k :: post → okOpW all k (b ++ pre) post t1 = true := by
 intro r
 induction r with
 | nil => intro b _ pre k post h; cases pre <;> cases h
 | cons y r ih =>
   intro b hb pre k post h
   simp only [okHeadW, Bool.and_eq_true] at hb
   cases pre with
   | nil => simp only [List.nil_append, List.cons.injEq] at h; obtain ⟨rfl, rfl⟩ := h; simpa using hb.1
   | cons z pre =>
     simp only [List.cons_append, List.cons.injEq] at h
     obtain ⟨rfl, h⟩ := h
     have := ih _ hb.2 pre k post h
     simpa using this
theorem okOpW_pre {k : Nat} {b l : List Nat} {t1 : Option Nat} (h : okOpW all k b l t1 = true) : ∃ o, all[k]? = some o ∧
 (∀ t ∈ o.looksAt all.toArray, ∀ j, j < all.length → j ∈ b ∨ j = k ∨ j ∈ l → dstIs all j t = true → (j ∈ b ∧ waits all k j = true) ∨ (j ∈ l ∧ waits all j k = true ∧ ∀ m ∈ b, dstIs all m t = false)) ∧
 (∀ e ∈ o.after, Region.binds .any e = true → e.on ∈ b) ∧ (∀ t, t1 = some t → waits all t k = true ∨ ∃ j ∈ l, waits all j k = true) := by
 unfold okOpW at h
 split at h
 · rename_i o ho
   simp only [Bool.and_eq_true] at h
   obtain ⟨⟨⟨⟨h1, h2⟩, h3⟩, _⟩, h5⟩ := h
   refine ⟨o, ho, fun t ht j hj hin hd => ?_, fun e he hb => ?_, fun t ht => ?_⟩
   · have := List.all_eq_true.1 (List.all_eq_true.1 h1 t ht) j (List.mem_range.2 hj)
     by_cases hjk : j = k
     · subst hjk
       exfalso
       unfold dstIs at hd
       simp only [ho] at hd
       cases hod : o.dst with
       | none => rw [hod] at hd; cases hd
       | some d =>
         rw [hod] at hd h2
         have : d = t := Nat.eq_of_beq_eq_true hd
         subst this
         simp [ht] at h2
     have hc : (b.contains j || l.contains j) = true := by
      rcases hin with h | h | h
      · simp [h]
      · exact absurd h hjk
      · simp [h]
     rw [hd, hc] at this
     simp only [Bool.not_true, Bool.false_or, Bool.or_false, Bool.or_eq_true, Bool.and_eq_true] at this
     rcases this with h | h
     · exact .inl ⟨by simpa using h.1, h.2⟩
     · exact .inr ⟨by simpa using h.1.1, h.1.2, fun m hm => by simpa using List.all_eq_true.1 h.2 m hm⟩
   · have := List.all_eq_true.1 h3 e (by simpa using he)
     rw [hb] at this
     simpa using this
   · subst ht
     simp only [Bool.or_eq_true, List.any_eq_true] at h5
     exact h5
 · cases h
theorem anyWalkW {F : Fence} (hF : Wd F) {head tail : List Nat} {Q : Exit → Act → World → Prop} {tops : List Oper} (hok : rgOkW all head tail [] = true)
 (htops : tail.map (all.toArray[·]?) = tops.map some) (Inv : (Nat → Bool) → Act → World → Prop)
 (hstep : ∀ (s : Nat → Bool) (j : Nat) (o : Oper) (a : Act) (w : World), j ∈ head → s j = false → all[j]? = some o → (∀ e ∈ o.after, Region.binds .any e = true → s e.on = true) → Inv s a w →
  (if Region.wanted o (yielded all.toArray a.tmps) then o.wpIn F 0 P a w (fun a' w' => Inv (setS s j) a' w') Q else Inv (setS s j) (a.put o.dst undef) w))
 (hend : ∀ a w, Inv (fun k => head.contains k) a w → wpR F P all.toArray Q tops a w) :
 ∀ (fuel : Nat) (listed : Array Bool) (a : Act) (w : World), listed.size = all.length → (∀ t ∈ tail, listed.getD t false = false) →
  (∀ k o, all[k]? = some o → listed.getD k false = true → ∀ e ∈ o.after, Region.binds .any e = true → listed.getD e.on false = true) →
  fuel = (head.filter fun k => !listed.getD k false).length + tail.length → Inv (fun k => listed.getD k false) a w → wpAnyIn F 0 P .any all.toArray Q fuel listed a w := by
 simp only [rgOkW, Bool.and_eq_true] at hok
 obtain ⟨⟨⟨⟨⟨hhead, hct⟩, hcl⟩, hcov⟩, hlc⟩, hseq⟩ := hok
 have hhl := okHeadW_lt _ _ hhead
 have cov : ∀ k, k < all.length → (k ∈ head ∧ k ∉ tail) ∨ (k ∉ head ∧ k ∈ tail) := by
  intro k hk
  have := List.all_eq_true.1 hcov k (List.mem_range.2 hk)
  simpa using this
 have full : (fun k => (headArr all head).getD k false) = fun k => head.contains k := by
  funext k
  by_cases hk : k < all.length
  · simp [headArr, hk]
  · have : head.contains k = false := by
     cases hc : head.contains k with
     | false => rfl
     | true => exact absurd (hhl k (by simpa using hc)) hk
    rw [this]
    simp [headArr, hk]
 intro fuel
 induction fuel with
 | zero =>
   intro listed a w hsz htl hcl2 hf hJ
   have htn : tail = [] := List.length_eq_zero_iff.1 (by omega)
   have hall : ∀ k ∈ head, listed.getD k false = true := by
    intro k hk
    cases hx : listed.getD k false with
    | true => rfl
    | false =>
      have : k ∈ head.filter fun k => !listed.getD k false := List.mem_filter.2 ⟨hk, by simp [hx]⟩
      rw [List.length_eq_zero_iff.1 (show (head.filter fun k => !listed.getD k false).length = 0 by omega)] at this
      cases this
   have hL : listed = headArr all head := by
    apply Array.ext
    · simp [headArr, hsz]
    · intro j h1 h2
      have hj : j < all.length := by omega
      rcases cov j hj with ⟨h3, h4⟩ | ⟨h3, h4⟩
      · have := hall j h3
        simp [h1] at this
        simp [headArr, this, h3]
      · have := htl j h4
        simp [h1] at this
        simp [headArr, this, h3]
   rw [hL] at hJ ⊢
   subst htn
   rw [full] at hJ
   exact wpAny_of_seqI [] _ tops _ _ htops hseq (hend _ _ hJ)
 | succ fuel ih =>
   intro listed a w hsz htl hcl2 hf hJ
   by_cases hall : ∀ k ∈ head, listed.getD k false = true
   · have hL : listed = headArr all head := by
      apply Array.ext
      · simp [headArr, hsz]
      · intro j h1 h2
        have hj : j < all.length := by omega
        rcases cov j hj with ⟨h3, h4⟩ | ⟨h3, h4⟩
        · have := hall j h3
          simp [h1] at this
          simp [headArr, this, h3]
        · have := htl j h4
          simp [h1] at this
          simp [headArr, this, h3]
     have hfil : (head.filter fun k => !listed.getD k false).length = 0 := by
      rw [List.length_eq_zero_iff, List.filter_eq_nil_iff]
      intro k hk; simp only [hall k hk]; decide
     rw [hL] at hJ
     rw [full] at hJ
     rw [show fuel + 1 = tail.length by omega, hL]
     exact wpAny_of_seqI tail _ tops _ _ htops hseq (hend _ _ hJ)
   ·
    have hex : ∃ k, k ∈ head ∧ listed.getD k false = false := by
     rcases Classical.em (∃ k, k ∈ head ∧ listed.getD k false = false) with h | h
     · exact h
     · exact absurd (fun k hk => by cases hx : listed.getD k false with | true => rfl | false => exact absurd ⟨k, hk, hx⟩ h) hall
    have first : ∀ (r pre : List Nat), head = pre ++ r → (∀ k ∈ pre, listed.getD k false = true) → (∃ k ∈ r, listed.getD k false = false) → ∃ pre k post, head = pre ++ k :: post ∧ (∀ j ∈ pre, listed.getD j false = true) ∧ listed.getD k false = false := by
     intro r
     induction r with
     | nil => intro pre _ _ h; obtain ⟨k, hk, _⟩ := h; cases hk
     | cons y r ih2 =>
       intro pre hp hpre hx
       cases hy : listed.getD y false with
       | false => exact ⟨pre, y, r, hp, hpre, hy⟩
       | true =>
         refine ih2 (pre ++ [y]) (by simp [hp]) (fun k hk => ?_) ?_
         · rcases List.mem_append.1 hk with h | h
           · exact hpre k h
           · rw [List.mem_singleton.1 h]; exact hy
         · obtain ⟨k, hk, hkf⟩ := hx
           rcases List.mem_cons.1 hk with rfl | hk
           · rw [hy] at hkf; cases hkf
           · exact ⟨k, hk, hkf⟩
    have getDt : ∀ k, k < all.length → listed.getD k false = false → listed.getD k true = false := fun k hk h => getD_in (by omega) h
    have hne : Region.ready .any all.toArray listed ≠ [] := by
     obtain ⟨pre, k, post, hp, hpre, hk⟩ := first head [] rfl (fun _ h => by cases h) (by obtain ⟨k, h1, h2⟩ := hex; exact ⟨k, h1, h2⟩)
     obtain ⟨o, ho, _, hedge, _⟩ := okOpW_pre (okHeadW_spec _ _ hhead pre k post hp)
     have hr : k ∈ Region.ready .any all.toArray listed := by
      refine mem_ready.2 ⟨getDt k (List.getElem?_eq_some_iff.1 ho).1 hk, o, by simpa using ho, fun e he hb => hpre _ (by simpa using hedge e he hb)⟩
     intro h0; rw [h0] at hr; cases hr
    refine ⟨fun h0 => absurd h0 hne, fun j hj => ?_⟩
    obtain ⟨hjun, oj, hoj, hpreds⟩ := mem_ready.1 hj
    have hoj' : all[j]? = some oj := by simpa using hoj
    have hjl : j < all.length := (List.getElem?_eq_some_iff.1 hoj').1
    have hjf : listed.getD j false = false := getD_both hjun
    rcases cov j hjl with ⟨hjh, hjt⟩ | ⟨hjh, hjt⟩
    ·
     obtain ⟨pre, post, hp⟩ := List.append_of_mem hjh
     have hsz' : (listed.setIfInBounds j true).size = all.length := by simp [hsz]
     have htl' : ∀ t ∈ tail, (listed.setIfInBounds j true).getD t false = false := by
      intro t ht
      rw [getD_set_ne false (by rintro rfl; exact hjt ht)]; exact htl t ht
     have hjset : (listed.setIfInBounds j true).getD j false = true := by
      have : j < listed.size := by omega
      simp [this]
     have hcl' : ∀ k o, all[k]? = some o → (listed.setIfInBounds j true).getD k false = true → ∀ e ∈ o.after, Region.binds .any e = true → (listed.setIfInBounds j true).getD e.on false = true := by
      intro k o hk hl e he hb
      by_cases hjk : j = k
      · subst hjk
        have : o = oj := by rw [hoj'] at hk; exact (Option.some.inj hk).symm
        subst this
        exact getD_set_true (hpreds e he hb)
      · rw [getD_set_ne false hjk] at hl
        exact getD_set_true (hcl2 k o hk hl e he hb)
     have hfuel : fuel = (head.filter fun k => !(listed.setIfInBounds j true).getD k false).length + tail.length := by
      have hnd : (head.filter fun k => !listed.getD k false).length = (head.filter fun k => !(listed.setIfInBounds j true).getD k false).length + 1 := by
       have hjpre : j ∉ pre := by
        have hsp := okHeadW_spec _ _ hhead pre j post hp
        unfold okOpW at hsp
        split at hsp
        · simp only [Bool.and_eq_true, Bool.not_eq_true'] at hsp
          have := hsp.1.2
          simpa using this
        · cases hsp
       have hjpost : j ∉ post := by
        intro hin
        obtain ⟨p1, p2, hpp⟩ := List.append_of_mem hin
        have hsp := okHeadW_spec _ _ hhead (pre ++ j :: p1) j p2 (by rw [hp, hpp]; simp)
        unfold okOpW at hsp
        split at hsp
        · simp only [Bool.and_eq_true, Bool.not_eq_true'] at hsp
          have := hsp.1.2
          simp at this
        · cases hsp
       have same : ∀ l : List Nat, j ∉ l → (l.filter fun k => !(listed.setIfInBounds j true).getD k false) = l.filter fun k => !listed.getD k false := by
        intro l hl
        apply List.filter_congr
        intro k hk
        rw [getD_set_ne false (by rintro rfl; exact hl hk)]
       rw [hp, List.filter_append, List.filter_append, List.filter_cons, List.filter_cons, same pre hjpre, same post hjpost]
       simp only [hjf, hjset]
       simp
       omega
      omega
     have hst := hstep (fun k => listed.getD k false) j oj a w hjh hjf hoj' hpreds hJ
     have hset : (fun k => (listed.setIfInBounds j true).getD k false) = setS (fun k => listed.getD k false) j := by
      funext k
      by_cases hkj : k = j
      · subst hkj
        rw [setS_same, hjset]
      · rw [setS_ne _ hkj, getD_set_ne false (Ne.symm hkj)]
     unfold wpOpIn
     simp only [hoj]
     split at hst
     · rename_i hw
       rw [if_pos hw]
       refine Oper.wpIn_mono (fun a' w' hI => ih _ _ _ hsz' htl' hcl' hfuel ?_) hst
       rw [hset]; exact hI
     · rename_i hw
       rw [if_neg hw]
       refine ⟨fun f' _ => hF.fn f', ih _ _ _ hsz' htl' hcl' hfuel ?_⟩
       rw [hset]; exact hst
    ·
     exfalso
     obtain ⟨q, hq⟩ := List.mem_iff_getElem?.1 hjt
     cases q with
     | succ q =>
       have hqt : q < tail.length := by have := (List.getElem?_eq_some_iff.1 hq).1; omega
       have hq1 : tail[q]? = some tail[q] := List.getElem?_eq_getElem hqt
       have hw := okChain_waits _ hct q tail[q] j hq1 hq
       obtain ⟨o2, ho2, e, he, hb, hon⟩ := waits_spec hw
       have : o2 = oj := by rw [hoj'] at ho2; exact (Option.some.inj ho2).symm
       subst this
       have h1 := hpreds e he hb
       rw [hon, htl tail[q] (List.mem_of_getElem? hq1)] at h1
       cases h1
     | zero =>
       have ht1 : tail.head? = some j := by rw [List.head?_eq_getElem?]; exact hq
       have all1 : ∀ (d : Nat) (pre : List Nat) (k : Nat) (post : List Nat), head = pre ++ k :: post → post.length = d → listed.getD k false = true := by
        intro d
        induction d using Nat.strongRecOn with
        | _ d ih3 =>
          intro pre k post hp hd
          obtain ⟨o, ho, _, _, h5⟩ := okOpW_pre (okHeadW_spec _ _ hhead pre k post hp)
          rcases h5 j ht1 with hw | ⟨k2, hk2, hw⟩
          · obtain ⟨o2, ho2, e, he, hb, hon⟩ := waits_spec hw
            have : o2 = oj := by rw [hoj'] at ho2; exact (Option.some.inj ho2).symm
            subst this
            rw [← hon]; exact hpreds e he hb
          · obtain ⟨p1, p2, hpp⟩ := List.append_of_mem hk2
            have h6 := ih3 p2.length (by rw [← hd, hpp]; simp; omega) (pre ++ k :: p1) k2 p2 (by rw [hp, hpp]; simp) rfl
            obtain ⟨o2, ho2, e, he, hb, hon⟩ := waits_spec hw
            rw [← hon]; exact hcl2 k2 o2 ho2 h6 e he hb
       obtain ⟨k, hk, hkf⟩ := hex
       obtain ⟨pre, post, hp⟩ := List.append_of_mem hk
       have := all1 post.length pre k post hp rfl
       rw [hkf] at this; cases this
theorem CS.drawHW {f : Fr} {id : Nat} {i : Imm} {L : SH} {Q : Ex → Fr → Imm → SH → Prop} {tops : List Oper} (hm : P.follows .mixedOrders = true) (head tail : List Nat) (hok : rgOkW all head tail [] = true) (htops0 : getAll all tail = some tops)
 (H : (Nat → Bool) → Fr → Imm → SH → Prop) (h0 : H (fun _ => false) f i L)
 (hob : ∀ j ∈ head, ∀ o, all[j]? = some o → ∀ s : Nat → Bool, s j = false → (∀ e ∈ o.after, Region.binds .any e = true → s e.on = true) → ∀ g i' L', i.le i' → H s g i' L' →
  (gok n g all o = true ∧ OpS P n o g i' L' fun v i'' L'' => H (setS s j) (updO g o.dst v) i'' L'') ∨ (gok n g all o = false ∧ H (setS s j) (updO g o.dst undef) i' L'))
 (hend : ∀ g i' L', i.le i' → H (fun k => head.contains k) g i' L' → RS P all n tops g i' L' fun f' i'' L'' => Q .normal f' i'' L'') : CS P n (.region id all.toArray true) f i L Q := by
 unfold CS
 intro Fc hFc ds w hw R hR
 refine wpIn_region_any hm ?_
 have htops := getAll_spec tail tops htops0
 have hrep : ∀ (m j : Nat), (Array.replicate m false).getD j false = false := getD_replicate_false
 have hhead : okHeadW all tail.head? [] head = true := by
  simp only [rgOkW, Bool.and_eq_true] at hok
  exact hok.1.1.1.1.1
 have hcount : all.length = (head.filter fun k => !(Array.replicate all.length false).getD k false).length + tail.length := by
  have h1 : (head.filter fun k => !(Array.replicate all.length false).getD k false) = head := by
   rw [List.filter_eq_self]
   intro k _; simp only [hrep]; decide
  rw [h1]
  simp only [rgOkW, Bool.and_eq_true] at hok
  obtain ⟨⟨⟨⟨⟨_, _⟩, _⟩, hcov⟩, _⟩, hseq⟩ := hok
  have htn : ∀ (ts : List Nat) (listed : Array Bool), seqI all.toArray ts listed = true → ts.Nodup ∧ ∀ t ∈ ts, t < all.length ∧ listed.getD t true = false := by
   intro ts
   induction ts with
   | nil => intro _ _; exact ⟨List.nodup_nil, fun t ht => by cases ht⟩
   | cons t ts ih =>
     intro listed hs
     simp only [seqI, Bool.and_eq_true, decide_eq_true_eq] at hs
     have hr : t ∈ Region.ready .any all.toArray listed := by rw [hs.1]; simp
     obtain ⟨h2, o, ho, _⟩ := mem_ready.1 hr
     obtain ⟨i1, i2⟩ := ih _ hs.2
     have htl : t < all.length := by
      have := (Array.getElem?_eq_some_iff.1 ho).1; simpa using this
     refine ⟨List.nodup_cons.2 ⟨fun hin => ?_, i1⟩, fun x hx => ?_⟩
     · have := (i2 t hin).2
       by_cases hsz : t < listed.size
       · simp [hsz] at this
       · simp [hsz] at h2
     · rcases List.mem_cons.1 hx with rfl | hx
       · exact ⟨htl, h2⟩
       · refine ⟨(i2 x hx).1, ?_⟩
         have h3 := (i2 x hx).2
         by_cases hxt : t = x
         · subst hxt; exact h2
         · rwa [getD_set_ne true hxt] at h3
  have hhn : head.Nodup := by
   have : ∀ (r b : List Nat), okHeadW all tail.head? b r = true → r.Nodup := by
    intro r
    induction r with
    | nil => intro _ _; exact List.nodup_nil
    | cons x r ih =>
      intro b hb
      simp only [okHeadW, Bool.and_eq_true] at hb
      exact List.nodup_cons.2 ⟨fun hin => okHeadW_notin _ _ hb.2 x hin (by simp), ih _ hb.2⟩
   exact this head [] hhead
  obtain ⟨t1, t2⟩ := htn tail _ hseq
  have hperm : (head ++ tail).Perm (List.range all.length) := by
   refine (List.perm_ext_iff_of_nodup (List.nodup_append.2 ⟨hhn, t1, fun a ha b hb e => ?_⟩) List.nodup_range).2 fun k => ?_
   · subst e
     have := List.all_eq_true.1 hcov a (List.mem_range.2 (okHeadW_lt _ _ hhead a ha))
     simp [ha, hb] at this
   · rw [List.mem_append, List.mem_range]
     constructor
     · rintro (hk | hk)
       · exact okHeadW_lt _ _ hhead k hk
       · exact (t2 k hk).1
     · intro hk
       have := List.all_eq_true.1 hcov k (List.mem_range.2 hk)
       simp at this
       rcases this with h | h
       · exact .inl h.1
       · exact .inr h.2
  have := hperm.length_eq
  simp at this
  omega
 have := anyWalkW (P := P) hFc (Q := R) (tops := tops) hok htops (fun s a w => ∃ g i' L', a = ofD n ds g ∧ i.le i' ∧ St i' L' w ∧ H s g i' L') (fun s j o a w' hj hs ho hp hI => by
  obtain ⟨g, i', L', rfl, hi, hst, hH⟩ := hI
  rw [gok_eq]
  rcases hob j hj o ho s hs hp g i' L' hi hH with ⟨hg, hop⟩ | ⟨hg, hH'⟩
  · rw [if_pos hg]
    exact hop.use hFc ds w' hst _ _ fun v i'' L'' w'' hi' hs' hH'' => ⟨_, i'', L'', rfl, hi.trans hi', hs', hH''⟩
  · rw [if_neg (by rw [hg]; decide), ofD_put]
    exact ⟨_, i', L', rfl, hi, hst, hH'⟩) (fun a w' hI => by
  obtain ⟨g, i', L', rfl, hi, hst, hH⟩ := hI
  have := hend g i' L' hi hH
  unfold RS at this
  exact this Fc hFc ds w' hst R fun f' i'' L'' w'' hi' hs' q => hR .normal f' i'' L'' w'' (hi.trans hi') hs' q) all.length (Array.replicate all.length false) (ofD n ds f) { w with drawn := w.drawn + 1 } (by simp) (fun t _ => hrep _ t)
  (fun k o _ hl => by rw [hrep] at hl; cases hl) hcount ⟨f, i, L, rfl, Imm.le.refl i, hw.drew, by
   have : (fun k => (Array.replicate all.length false).getD k false) = fun _ => false := funext fun k => hrep _ k
   rw [this]; exact h0⟩
 simpa using this
end
end Go.Eng
