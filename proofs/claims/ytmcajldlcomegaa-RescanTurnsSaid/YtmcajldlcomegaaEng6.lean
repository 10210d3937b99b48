/- The proof engine, part 6: a drawn region that only reads: one walk. No condition. -/
import Derived.Test.YtmcajldlcomegaaEng5
import Derived.Deep.Quiet
namespace Go.Eng
open Go

theorem St.weaken {i i' : Imm} {L : SH} {w : World} (h : St i' L w) (hi : i.le i') : St i L w :=
  ⟨h.os.trans hi.os, h.tape.trans hi.tape, h.output.trans hi.output, fun b o hb => h.imm b o (hi.blk b o hb), h.nodup, h.own, fun p hp => by
    cases hb : i.blk p.1 with
    | none => rfl
    | some o => have := h.sep p hp; rw [hi.blk _ _ hb] at this; cases this⟩

@[irreducible] def QS (P : Program) (all : List Oper) (n : Nat) (r : List Oper) (f : Fr) (i : Imm) (L : SH) (K : Fr → Prop) : Prop :=
  ∀ ds, wpQuiet P all.toArray (St i L) (fun a => ∃ f', a = ofD n ds f' ∧ K f') r (ofD n ds f)

section
variable {P : Program} {all : List Oper} {n : Nat} {f : Fr} {i : Imm} {L : SH} {r : List Oper} {K : Fr → Prop}
theorem wpIn_of_quiet {F : Fence} (hF : Wd F) {C : World → Prop} {o : Oper} {a : Act} {K : Act → Prop} {K' : Act → World → Prop} {Q' : Exit → Act → World → Prop} {w : World} (hw : C w) (h : ∀ a w', C w' → K a → K' a w') (hh : o.quiet P a C K) : o.wpIn F 0 P a w K' Q' := by
  obtain ⟨v, h1, h2⟩ := hh
  have h3 := h1 w hw
  unfold Oper.quietAt at h3
  unfold Oper.wpIn
  refine ⟨fun f' _ => hF.fn f', ?_⟩
  rw [Oper.semAt_eq F.round a.eval o fun c hc => by
    obtain ⟨dst, op, ty, pos, aft, gd⟩ := o
    simp only at hc
    subst hc
    simp only [execOp, Sem.run_bind] at h3
    cases hr : (resolve a.eval c ty).run P w with
    | ok x w' => rw [hr] at h3; simp only [Result.andThen, Sem.run_pure] at h3; exact h3
    | halt x w' => rw [hr] at h3; exact h3]
  generalize (execOp a.eval o).run P w = r at *
  cases r with
  | ok n w' =>
    cases n <;> simp only [Oper.quietUpon] at h3 <;> simp only [Oper.uponIn]
    case value u =>
      obtain ⟨e1, e2⟩ := h3
      rw [e1, e2]
      exact h _ _ hw h2
    case skip =>
      obtain ⟨e1, e2⟩ := h3
      rw [e1, ← e2]
      exact h _ _ hw h2
    case enter f args =>
      obtain ⟨e1, hc⟩ := h3
      rw [e1]
      exact ⟨hF.depth, hF.calls (hc.mono fun e w'' ⟨he, hw''⟩ => by subst he; exact h _ _ hw'' h2)⟩
  | halt x w' => simp only [Oper.quietUpon] at h3
theorem wpOpIn_of_qOp {F : Fence} (hF : Wd F) {C : World → Prop} {ops : Array Oper} {j : Nat} {a : Act} {K : Act → Prop} {K' : Act → World → Prop} {Q' : Exit → Act → World → Prop} {w : World} (hC : C w) (h : ∀ a w', C w' → K a → K' a w') (hh : qOp P ops C j K a) : wpOpIn F 0 P ops Q' j K' a w := by
  unfold qOp at hh
  unfold wpOpIn
  split
  · rename_i ho; simp only [ho] at hh; exact h _ _ hC hh
  · rename_i o ho
    simp only [ho] at hh
    split
    · rename_i hw; simp only [hw, if_true] at hh; exact wpIn_of_quiet hF hC h hh
    · rename_i hw; simp only [hw] at hh; exact ⟨fun f' _ => hF.fn f', h _ _ hC hh⟩
theorem wpAnyIn_of_quiet {F : Fence} (hF : Wd F) {C : World → Prop} {ops : Array Oper} {md : Region.Mode} {Q : Act → Prop} {Q' : Exit → Act → World → Prop} (hQ : ∀ a w, C w → Q a → Q' .normal a w) : ∀ (fuel : Nat) (listed : Array Bool) (a : Act) (w : World), C w →
    wpAnyQ P md ops C Q fuel listed a → wpAnyIn F 0 P md ops Q' fuel listed a w
  | 0, _, _, _, hw, h => ⟨h.1, hQ _ _ hw h.2⟩
  | fuel + 1, _, _, _, hw, h => ⟨fun h0 => hQ _ _ hw (h.1 h0), fun i hi => wpOpIn_of_qOp hF hw (fun a' w' hw' => wpAnyIn_of_quiet hF hQ fuel _ a' w' hw') (h.2 i hi)⟩
theorem wpIn_region_quiet {F : Fence} (hF : Wd F) {C : World → Prop} {ops : Array Oper} {id : Nat} {Q : Exit → Act → World → Prop} {a : Act} {w : World} (hm : P.follows .mixedOrders = true) (hB : Region.lexB .any ops = true) (hC : C { w with drawn := w.drawn + 1 })
    (h : wpQuiet P ops C (fun a' => ∀ w', C w' → Q .normal a' w') ops.toList a) : (Code.region id ops true).wpIn F 0 P Q a w := by
  simp only [Region.lexB, Bool.and_eq_true] at hB
  refine wpIn_region_any hm (wpAnyIn_of_quiet hF (Q := fun a' => ∀ w', C w' → Q .normal a' w') (fun _ w' hw' h => h w' hw') _ _ _ _ hC ?_)
  have := wpAnyQ_lex (C := C) (md := .any) hB.1 ops.toList 0 (Array.replicate ops.size false) a (by simp) (by simpa using hB.2) h
  simpa using this
theorem CS.drawQ {id : Nat} {Q : Ex → Fr → Imm → SH → Prop} (hm : P.follows .mixedOrders = true) (hB : Region.lexB .any all.toArray = true) (h : QS P all n all f i L fun f' => Q .normal f' i L) : CS P n (.region id all.toArray true) f i L Q := by
  unfold CS
  intro F hF ds w hw R hR
  unfold QS at h
  refine wpIn_region_quiet hF (C := St i L) hm hB hw.drew ?_
  have key : ∀ (r : List Oper) (a : Act) (A B : Act → Prop), (∀ a, A a → B a) → wpQuiet P all.toArray (St i L) A r a → wpQuiet P all.toArray (St i L) B r a := by
    intro r
    induction r with
    | nil => intro a A B hab h; exact hab a h
    | cons o r ih =>
      intro a A B hab h
      simp only [wpQuiet] at h ⊢
      split at h
      · rename_i hw; rw [if_pos hw]; exact Oper.quiet_mono (fun a h => ih a A B hab h) h
      · rename_i hw; rw [if_neg hw]; exact ih _ A B hab h
  have := key all (ofD n ds f) _ (fun a' => ∀ w', St i L w' → R .normal a' w') (fun a ⟨f', ha, hk⟩ w' hw' => by rw [ha]; exact hR .normal f' i L w' (Imm.le.refl i) hw' hk) (h ds)
  simpa using this
theorem QS.nil (h : K f) : QS P all n [] f i L K := by unfold QS; exact fun ds => ⟨f, rfl, h⟩
theorem QS.skip {o : Oper} (hg : gok n f all o = false) (h : QS P all n r (updO f o.dst undef) i L K) : QS P all n (o :: r) f i L K := by
  unfold QS at *
  intro ds
  simp only [wpQuiet]
  rw [if_neg (by rw [gok_eq, hg]; decide), ofD_put]
  exact h ds
theorem QS.lv {dst : Option Nat} {op : Op} {ty : TypeId} {pos : String} {aft : Array Edge} {gd : Option (Nat × Bool)} {v : Value} (hv : LV P n f i L ⟨dst, op, ty, pos, aft, gd⟩ v) (hg : gok n f all ⟨dst, op, ty, pos, aft, gd⟩ = true) (h : QS P all n r (updO f dst v) i L K) : QS P all n (⟨dst, op, ty, pos, aft, gd⟩ :: r) f i L K := by
  unfold QS at *
  intro ds
  simp only [wpQuiet]
  rw [if_pos (by rw [gok_eq, hg])]
  refine ⟨v, fun w hw => ?_, by rw [ofD_put]; exact h ds⟩
  unfold LV at hv
  unfold Oper.quietAt
  rw [ofD_eval, hv w hw]
  exact ⟨rfl, rfl⟩
theorem QS.pv {dst : Option Nat} {op : Op} {ty : TypeId} {pos : String} {aft : Array Edge} {gd : Option (Nat × Bool)} {v : Value} (hv : PV P n f ⟨dst, op, ty, pos, aft, gd⟩ v) (hg : gok n f all ⟨dst, op, ty, pos, aft, gd⟩ = true) (h : QS P all n r (updO f dst v) i L K) : QS P all n (⟨dst, op, ty, pos, aft, gd⟩ :: r) f i L K :=
  QS.lv (by unfold LV; unfold PV at hv; exact fun w _ => hv w) hg h
theorem QS.call {g : FuncId} {as : Array Operand} {ts : Array TypeId} {vs : List Value} {dst : Option Nat} {ty : TypeId} {pos : String} {aft : Array Edge} {gd : Option (Nat × Bool)} {v : Value}
    (hc : FnS P g vs i L fun u _ L' => u = v ∧ L' = L) (hg : gok n f all ⟨dst, .call ⟨.value (.func g), as, ts⟩, ty, pos, aft, gd⟩ = true) (hf : fnOk P g = true) (ha : as.toList.map (ev n f) = vs)
    (h : QS P all n r (updO f dst v) i L K) : QS P all n (⟨dst, .call ⟨.value (.func g), as, ts⟩, ty, pos, aft, gd⟩ :: r) f i L K := by
  unfold QS at *
  intro ds
  simp only [wpQuiet]
  rw [if_pos (by rw [gok_eq, hg])]
  refine ⟨v, fun w hw => ?_, by rw [ofD_put]; exact h ds⟩
  unfold Oper.quietAt
  have : as.map (ev n f) = vs.toArray := by rw [← ha]; exact Array.ext' (by simp)
  have hx : (execOp (ev n f) ⟨dst, .call ⟨.value (.func g), as, ts⟩, ty, pos, aft, gd⟩).run P w = .ok (.enter g vs.toArray) w := by
    simp [execOp, resolve, this, ev, Deferred.ofValue, invoke, run_callFunc hf]
  rw [ofD_eval, hx]
  refine ⟨rfl, (hc w hw).mono ?_⟩
  rintro e w' ⟨u, i', L', rfl, hi, hs, rfl, rfl⟩
  exact ⟨rfl, hs.weaken hi⟩
theorem QS.callV {g : FuncId} {x : Operand} {fst cap : Array Value} {as : Array Operand} {ts : Array TypeId} {vs : List Value} {dst : Option Nat} {ty : TypeId} {pos : String} {aft : Array Edge} {gd : Option (Nat × Bool)} {v : Value}
    (hc : FnS P g vs i L fun u _ L' => u = v ∧ L' = L) (hg : gok n f all ⟨dst, .call ⟨.value x, as, ts⟩, ty, pos, aft, gd⟩ = true) (hx : ev n f x = .func (.func g) fst cap) (hf : fnOk P g = true) (ha : fst.toList ++ as.toList.map (ev n f) ++ cap.toList = vs)
    (h : QS P all n r (updO f dst v) i L K) : QS P all n (⟨dst, .call ⟨.value x, as, ts⟩, ty, pos, aft, gd⟩ :: r) f i L K := by
  unfold QS at *
  intro ds
  simp only [wpQuiet]
  rw [if_pos (by rw [gok_eq, hg])]
  refine ⟨v, fun w hw => ?_, by rw [ofD_put]; exact h ds⟩
  unfold Oper.quietAt
  have : fst ++ (as.map (ev n f) ++ cap) = vs.toArray := by rw [← ha]; exact Array.ext' (by simp)
  have hx : (execOp (ev n f) ⟨dst, .call ⟨.value x, as, ts⟩, ty, pos, aft, gd⟩).run P w = .ok (.enter g vs.toArray) w := by
    simp [execOp, resolve, hx, Deferred.ofValue, invoke, run_callFunc hf, this]
  rw [ofD_eval, hx]
  refine ⟨rfl, (hc w hw).mono ?_⟩
  rintro e w' ⟨u, i', L', rfl, hi, hs, rfl, rfl⟩
  exact ⟨rfl, hs.weaken hi⟩
end
section
variable {P : Program} {all : List Oper} {n : Nat} {f : Fr} {i : Imm} {L : SH} {r : List Oper} {K : Fr → Prop} {dst : Option Nat} {ty : TypeId} {pos : String} {aft : Array Edge} {gd : Option (Nat × Bool)}
  {t t2 : Nat} {x y : Operand} {a b : Int} {k : IntKind} {p q : ByteArray}
theorem QS.ifLss (hx : ev n f x = .int k a) (hy : ev n f y = .int k b) (hg : gok n f all ⟨dst, .binOp .lss t x y t2, ty, pos, aft, gd⟩ = true)
    (hT : a < b → QS P all n r (updO f dst (.bool true)) i L K) (hF : b ≤ a → QS P all n r (updO f dst (.bool false)) i L K) : QS P all n (⟨dst, .binOp .lss t x y t2, ty, pos, aft, gd⟩ :: r) f i L K := by
  by_cases h : a < b
  · exact QS.pv (PV.lssT hx hy h) hg (hT h)
  · exact QS.pv (PV.lssF hx hy (by omega)) hg (hF (by omega))
theorem QS.ifLeq (hx : ev n f x = .int k a) (hy : ev n f y = .int k b) (hg : gok n f all ⟨dst, .binOp .leq t x y t2, ty, pos, aft, gd⟩ = true)
    (hT : a ≤ b → QS P all n r (updO f dst (.bool true)) i L K) (hF : b < a → QS P all n r (updO f dst (.bool false)) i L K) : QS P all n (⟨dst, .binOp .leq t x y t2, ty, pos, aft, gd⟩ :: r) f i L K := by
  by_cases h : a ≤ b
  · exact QS.pv (PV.leqT hx hy h) hg (hT h)
  · exact QS.pv (PV.leqF hx hy (by omega)) hg (hF (by omega))
theorem QS.ifGtr (hx : ev n f x = .int k a) (hy : ev n f y = .int k b) (hg : gok n f all ⟨dst, .binOp .gtr t x y t2, ty, pos, aft, gd⟩ = true)
    (hT : b < a → QS P all n r (updO f dst (.bool true)) i L K) (hF : a ≤ b → QS P all n r (updO f dst (.bool false)) i L K) : QS P all n (⟨dst, .binOp .gtr t x y t2, ty, pos, aft, gd⟩ :: r) f i L K := by
  by_cases h : b < a
  · exact QS.pv (PV.gtrT hx hy h) hg (hT h)
  · exact QS.pv (PV.gtrF hx hy (by omega)) hg (hF (by omega))
theorem QS.ifGeq (hx : ev n f x = .int k a) (hy : ev n f y = .int k b) (hg : gok n f all ⟨dst, .binOp .geq t x y t2, ty, pos, aft, gd⟩ = true)
    (hT : b ≤ a → QS P all n r (updO f dst (.bool true)) i L K) (hF : a < b → QS P all n r (updO f dst (.bool false)) i L K) : QS P all n (⟨dst, .binOp .geq t x y t2, ty, pos, aft, gd⟩ :: r) f i L K := by
  by_cases h : b ≤ a
  · exact QS.pv (PV.geqT hx hy h) hg (hT h)
  · exact QS.pv (PV.geqF hx hy (by omega)) hg (hF (by omega))
theorem QS.ifEql (hx : ev n f x = .int k a) (hy : ev n f y = .int k b) (hg : gok n f all ⟨dst, .binOp .eql t x y t2, ty, pos, aft, gd⟩ = true)
    (hT : a = b → QS P all n r (updO f dst (.bool true)) i L K) (hF : a ≠ b → QS P all n r (updO f dst (.bool false)) i L K) : QS P all n (⟨dst, .binOp .eql t x y t2, ty, pos, aft, gd⟩ :: r) f i L K := by
  by_cases h : a = b
  · exact QS.pv (PV.eqlT hx hy h) hg (hT h)
  · exact QS.pv (PV.eqlF hx hy h) hg (hF h)
theorem QS.ifNeq (hx : ev n f x = .int k a) (hy : ev n f y = .int k b) (hg : gok n f all ⟨dst, .binOp .neq t x y t2, ty, pos, aft, gd⟩ = true)
    (hT : a ≠ b → QS P all n r (updO f dst (.bool true)) i L K) (hF : a = b → QS P all n r (updO f dst (.bool false)) i L K) : QS P all n (⟨dst, .binOp .neq t x y t2, ty, pos, aft, gd⟩ :: r) f i L K := by
  by_cases h : a = b
  · exact QS.pv (PV.neqF hx hy h) hg (hF h)
  · exact QS.pv (PV.neqT hx hy h) hg (hT h)
theorem QS.ifSeql (hx : ev n f x = .string p) (hy : ev n f y = .string q) (hg : gok n f all ⟨dst, .binOp .eql t x y t2, ty, pos, aft, gd⟩ = true)
    (hT : p.toList = q.toList → QS P all n r (updO f dst (.bool true)) i L K) (hF : p.toList ≠ q.toList → QS P all n r (updO f dst (.bool false)) i L K) : QS P all n (⟨dst, .binOp .eql t x y t2, ty, pos, aft, gd⟩ :: r) f i L K := by
  by_cases h : p.toList = q.toList
  · exact QS.pv (PV.seqlT hx hy h) hg (hT h)
  · exact QS.pv (PV.seqlF hx hy h) hg (hF h)
theorem QS.ifSneq (hx : ev n f x = .string p) (hy : ev n f y = .string q) (hg : gok n f all ⟨dst, .binOp .neq t x y t2, ty, pos, aft, gd⟩ = true)
    (hT : p.toList ≠ q.toList → QS P all n r (updO f dst (.bool true)) i L K) (hF : p.toList = q.toList → QS P all n r (updO f dst (.bool false)) i L K) : QS P all n (⟨dst, .binOp .neq t x y t2, ty, pos, aft, gd⟩ :: r) f i L K := by
  by_cases h : p.toList = q.toList
  · exact QS.pv (PV.sneqF hx hy h) hg (hF h)
  · exact QS.pv (PV.sneqT hx hy h) hg (hT h)
end
end Go.Eng
namespace Go.Eng
open Go
/-- all plain operations, by computation -/
def pvE (T : Tab) (n : Nat) (f : Fr) : Op → Option Value
  | .move x => sv (ev n f x)
  | .assign x => sv (ev n f x)
  | .nilCheck x => match ev n f x with
    | .pointer (some a) => some (.pointer (some a))
    | _ => none
  | .extract x ix => match ev n f x with
    | .tuple vs => (match vs[ix]? with | some v => sv v | none => none)
    | _ => none
  | .pick c a b => match ev n f c with
    | .bool true => sv (ev n f a)
    | .bool false => sv (ev n f b)
    | _ => none
  | .fieldAddr s x fld => match ev n f x with
    | .pointer (some ⟨b, o, none⟩) => (match fOff T s fld with | some off => some (.pointer (some ⟨b, o + off, none⟩)) | none => none)
    | _ => none
  | .field s x fld => match ev n f x with
    | .agg cs => fVal T s fld cs.toList
    | _ => none
  | .build t parts => match bld T n f t parts.toList with
    | some cs => some (.agg cs.toArray)
    | none => none
  | .unOp .not _ x => match ev n f x with
    | .bool b => some (.bool (!b))
    | _ => none
  | .binOp .eql t x y _ => match ev n f x, ev n f y with
    | .pointer none, .pointer none => bif tIs T isPtrD t then some (.bool true) else none
    | .pointer (some _), .pointer none => bif tIs T isPtrD t then some (.bool false) else none
    | .pointer none, .pointer (some _) => bif tIs T isPtrD t then some (.bool false) else none
    | .slice none _ _, .slice none 0 0 => bif tIs T isSlD t then some (.bool true) else none
    | .slice (some _) _ _, .slice none 0 0 => bif tIs T isSlD t then some (.bool false) else none
    | .map none, .map none => bif tIs T isMapD t then some (.bool true) else none
    | .map (some _), .map none => bif tIs T isMapD t then some (.bool false) else none
    | _, _ => none
  | .binOp .neq t x y _ => match ev n f x, ev n f y with
    | .pointer none, .pointer none => bif tIs T isPtrD t then some (.bool false) else none
    | .pointer (some _), .pointer none => bif tIs T isPtrD t then some (.bool true) else none
    | .pointer none, .pointer (some _) => bif tIs T isPtrD t then some (.bool true) else none
    | _, _ => none
  | _ => none
theorem bif_some {c : Bool} {a v : Value} (h : (bif c then some a else none) = some v) : c = true ∧ a = v := by
  cases c with
  | true => cases h; exact ⟨rfl, rfl⟩
  | false => cases h
theorem PV.all {P : Program} {n : Nat} {f : Fr} {dst : Option Nat} {ty : TypeId} {pos : String} {aft : Array Edge} {gd : Option (Nat × Bool)} {v : Value} {T : Tab} (hT : T.ok P) {op : Op} (h : pvE T n f op = some v) : PV P n f ⟨dst, op, ty, pos, aft, gd⟩ v := by
  unfold pvE at h
  split at h
  · exact PV.move h
  · exact PV.assign h
  · split at h
    · rename_i a ha; cases h; exact PV.nilCheck ha
    · cases h
  · split at h
    · rename_i vs hvs
      split at h
      · rename_i u hu; rw [sv_eq] at h; cases h; exact PV.extract hvs hu
      · cases h
    · cases h
  · split at h
    · rename_i hc; exact PV.pickT hc h
    · rename_i hc; exact PV.pickF hc h
    · cases h
  · split at h
    · rename_i b o hb
      split at h
      · rename_i off hoff; cases h; exact PV.fieldAddr hT hb hoff
      · cases h
    · cases h
  · split at h
    · rename_i cs hcs; exact PV.field hT (cs := cs.toList) hcs h
    · cases h
  · split at h
    · rename_i cs hcs; cases h; exact PV.build hT hcs
    · cases h
  · split at h
    · rename_i b hb; cases h; exact PV.not hb
    · cases h
  · split at h
    · rename_i hx hy; obtain ⟨ht, rfl⟩ := bif_some h; exact PV.eqlPN hT ht hx hy
    · rename_i hx hy; obtain ⟨ht, rfl⟩ := bif_some h; exact PV.eqlPS hT ht hx hy
    · rename_i hx hy; obtain ⟨ht, rfl⟩ := bif_some h; exact PV.eqlNP hT ht hx hy
    · rename_i hx hy; obtain ⟨ht, rfl⟩ := bif_some h; exact PV.eqlSN hT ht hx hy
    · rename_i hx hy; obtain ⟨ht, rfl⟩ := bif_some h; exact PV.eqlSS hT ht hx hy
    · rename_i hx hy; obtain ⟨ht, rfl⟩ := bif_some h; exact PV.eqlMN hT ht hx hy
    · rename_i hx hy; obtain ⟨ht, rfl⟩ := bif_some h; exact PV.eqlMS hT ht hx hy
    · cases h
  · split at h
    · rename_i hx hy; obtain ⟨ht, rfl⟩ := bif_some h; exact PV.neqPN hT ht hx hy
    · rename_i hx hy; obtain ⟨ht, rfl⟩ := bif_some h; exact PV.neqPS hT ht hx hy
    · rename_i hx hy; obtain ⟨ht, rfl⟩ := bif_some h; exact PV.neqNP hT ht hx hy
    · cases h
  · cases h
end Go.Eng
