/- The proof engine, part 11: strings and structs of strings compared, calls that answer yes or no. No condition. -/
import Derived.Test.YtmcajldlcomegaaEng10
import Derived.WideShapes
import Derived.Laws.StructEq
namespace Go.Eng
open Go
theorem str_inj {p q : ByteArray} (h : p.toList = q.toList) : p = q := by
  rw [ByteArray.toList_eq, ByteArray.toList_eq] at h
  exact Go.WideShapes.bytes_inj h
theorem str_ne {p q : ByteArray} (h : p.toList ≠ q.toList) : p ≠ q := fun e => h (by rw [e])
section
variable {P : Program} {all : List Oper} {n : Nat} {r : List Oper} {f : Fr} {i : Imm} {L : SH} {K : Fr → Imm → SH → Prop} {dst : Option Nat} {ty : TypeId} {pos : String} {aft : Array Edge} {gd : Option (Nat × Bool)} {T : Tab} {t t2 : Nat} {x y : Operand}
theorem PV.seql {p q : ByteArray} (hx : ev n f x = .string p) (hy : ev n f y = .string q) : PV P n f ⟨dst, .binOp .eql t x y t2, ty, pos, aft, gd⟩ (.bool (decide (p = q))) := by
  by_cases h : p = q
  · rw [decide_eq_true h]; exact PV.seqlT hx hy (by rw [h])
  · rw [decide_eq_false h]; exact PV.seqlF hx hy fun e => h (str_inj e)
theorem PV.sneq {p q : ByteArray} (hx : ev n f x = .string p) (hy : ev n f y = .string q) : PV P n f ⟨dst, .binOp .neq t x y t2, ty, pos, aft, gd⟩ (.bool (!decide (p = q))) := by
  by_cases h : p = q
  · rw [decide_eq_true h]; exact PV.sneqF hx hy (by rw [h])
  · rw [decide_eq_false h]; exact PV.sneqT hx hy fun e => h (str_inj e)
/-- a yes or no, split -/
theorem RS.pvB {p : Prop} [Decidable p] {op : Op} (h : PV P n f ⟨dst, op, ty, pos, aft, gd⟩ (.bool (decide p))) (hg : gok n f all ⟨dst, op, ty, pos, aft, gd⟩ = true)
    (hT : p → RS P all n r (updO f dst (.bool true)) i L K) (hF : ¬ p → RS P all n r (updO f dst (.bool false)) i L K) : RS P all n (⟨dst, op, ty, pos, aft, gd⟩ :: r) f i L K := by
  refine RS.pv h hg ?_
  by_cases hp : p
  · rw [decide_eq_true hp]; exact hT hp
  · rw [decide_eq_false hp]; exact hF hp
theorem RS.pvN {p : Prop} [Decidable p] {op : Op} (h : PV P n f ⟨dst, op, ty, pos, aft, gd⟩ (.bool (!decide p))) (hg : gok n f all ⟨dst, op, ty, pos, aft, gd⟩ = true)
    (hT : p → RS P all n r (updO f dst (.bool false)) i L K) (hF : ¬ p → RS P all n r (updO f dst (.bool true)) i L K) : RS P all n (⟨dst, op, ty, pos, aft, gd⟩ :: r) f i L K := by
  refine RS.pv h hg ?_
  by_cases hp : p
  · rw [decide_eq_true hp]; exact hT hp
  · rw [decide_eq_false hp]; exact hF hp
theorem RS.callB {p : Prop} [Decidable p] {g : FuncId} {as : Array Operand} {ts : Array TypeId} {vs : List Value} (h : FnS P g vs i L fun v i' L' => v = .bool (decide p) ∧ i' = i ∧ L' = L) (hg : gok n f all ⟨dst, .call ⟨.value (.func g), as, ts⟩, ty, pos, aft, gd⟩ = true) (hf : fnOk P g = true)
    (ha : as.toList.map (ev n f) = vs) (hT : p → RS P all n r (updO f dst (.bool true)) i L K) (hF : ¬ p → RS P all n r (updO f dst (.bool false)) i L K) : RS P all n (⟨dst, .call ⟨.value (.func g), as, ts⟩, ty, pos, aft, gd⟩ :: r) f i L K := by
  refine RS.call h hg hf ha ?_
  rintro v i' L' _ ⟨rfl, rfl, rfl⟩
  by_cases hp : p
  · rw [decide_eq_true hp]; exact hT hp
  · rw [decide_eq_false hp]; exact hF hp
theorem QS.pvB {K : Fr → Prop} {p : Prop} [Decidable p] {op : Op} (h : PV P n f ⟨dst, op, ty, pos, aft, gd⟩ (.bool (decide p))) (hg : gok n f all ⟨dst, op, ty, pos, aft, gd⟩ = true)
    (hT : p → QS P all n r (updO f dst (.bool true)) i L K) (hF : ¬ p → QS P all n r (updO f dst (.bool false)) i L K) : QS P all n (⟨dst, op, ty, pos, aft, gd⟩ :: r) f i L K := by
  refine QS.pv h hg ?_
  by_cases hp : p
  · rw [decide_eq_true hp]; exact hT hp
  · rw [decide_eq_false hp]; exact hF hp
theorem QS.pvN {K : Fr → Prop} {p : Prop} [Decidable p] {op : Op} (h : PV P n f ⟨dst, op, ty, pos, aft, gd⟩ (.bool (!decide p))) (hg : gok n f all ⟨dst, op, ty, pos, aft, gd⟩ = true)
    (hT : p → QS P all n r (updO f dst (.bool false)) i L K) (hF : ¬ p → QS P all n r (updO f dst (.bool true)) i L K) : QS P all n (⟨dst, op, ty, pos, aft, gd⟩ :: r) f i L K := by
  refine QS.pv h hg ?_
  by_cases hp : p
  · rw [decide_eq_true hp]; exact hT hp
  · rw [decide_eq_false hp]; exact hF hp
theorem QS.callB {K : Fr → Prop} {p : Prop} [Decidable p] {g : FuncId} {as : Array Operand} {ts : Array TypeId} {vs : List Value} (h : FnS P g vs i L fun v _ L' => v = .bool (decide p) ∧ L' = L) (hg : gok n f all ⟨dst, .call ⟨.value (.func g), as, ts⟩, ty, pos, aft, gd⟩ = true) (hf : fnOk P g = true)
    (ha : as.toList.map (ev n f) = vs) (hT : p → QS P all n r (updO f dst (.bool true)) i L K) (hF : ¬ p → QS P all n r (updO f dst (.bool false)) i L K) : QS P all n (⟨dst, .call ⟨.value (.func g), as, ts⟩, ty, pos, aft, gd⟩ :: r) f i L K := by
  refine QS.call h hg hf ha ?_
  by_cases hp : p
  · rw [decide_eq_true hp]; exact hT hp
  · rw [decide_eq_false hp]; exact hF hp
end
/-- an element of a row that is read -/
theorem Sl.at {i : Imm} {v : Value} {sz n : Nat} {xs : List Value} (h : Sl i v sz n xs) {k : Nat} (hk : k < n) (hsz : 0 < sz) :
    ∃ b o cs t fz cap, v = .slice (some ⟨b, o, none⟩) n cap ∧ i.blk b = some (.cells (List.toArray cs) t fz) ∧ ∀ d, d < sz → cs[o + ((k : Nat) : Int).toNat * sz + d]? = xs[k * sz + d]? := by
  obtain ⟨ao, cap, h1, h2, h3⟩ := h
  have hle : k * sz + sz ≤ n * sz := by
    have := Nat.mul_le_mul_right sz (show k + 1 ≤ n from hk)
    rw [Nat.add_mul, Nat.one_mul] at this; exact this
  rcases h3 with h3 | ⟨b, o, cs, t, fz, h4, h5, h6⟩
  · subst h3
    simp at h2; omega
  · refine ⟨b, o, cs, t, fz, cap, by rw [h1, h4], h5, fun d hd => ?_⟩
    rw [Int.toNat_natCast, Nat.add_assoc]
    exact h6 _ (by rw [h2]; omega)
end Go.Eng
namespace Go.Eng
open Go
/-! ### structs of plain values compared -/
def scOk : TypeDesc → Value → Value → Bool
  | .string, .string _, .string _ => true
  | .int _, .int k _, .int k' _ => decide (k = k')
  | .bool, .bool _, .bool _ => true
  | _, _, _ => false
def scEq : Value → Value → Bool
  | .string a, .string b => decide (a = b)
  | .int _ a, .int _ b => decide (a = b)
  | .bool a, .bool b => a == b
  | _, _ => false
def fldsOk (T : Tab) : List Field → Nat → List Value → List Value → Bool
  | [], _, [], [] => true
  | f :: fs, k, x :: xs, y :: ys => !(f.name == "_") && Nat.beq f.offset k && (match tget T f.type with | some e => !isAggD e.desc && scOk e.desc x y | none => false) && fldsOk T fs (k + 1) xs ys
  | _, _, _, _ => false
def allEq : List Value → List Value → Bool
  | x :: xs, y :: ys => scEq x y && allEq xs ys
  | _, _ => true
def stOk (T : Tab) (t : Nat) (xs ys : List Value) : Bool :=
  match tget T t with
  | some ⟨.struct fs, _, _, _⟩ => fldsOk T fs.toList 0 xs ys
  | _ => false
section
variable {P : Program} {T : Tab}
theorem run_scEq {t : TypeId} {d : TypeDesc} {x y : Value} (h : P.underlying t = some d) (hs : scOk d x y = true) (n : Nat) (w : World) : (Op.equalIn (n + 1) t x y).run P w = .ok (scEq x y) w := by
  unfold scOk at hs
  split at hs
  · rename_i a b
    have : (a == b) = decide (a = b) := by
      rw [beq_toListBytes]
      by_cases e : a = b
      · simp [e]
      · rw [decide_eq_false e]
        have : a.toList ≠ b.toList := fun h => e (str_inj h)
        simpa using this
    simp [Op.equalIn, run_underlying h, scEq, this]
  · rename_i k a k' b
    have hk : k = k' := by simpa using hs
    subst hk
    have : (a == b) = decide (a = b) := by
      by_cases e : a = b
      · simp [e]
      · rw [decide_eq_false e]; simpa using e
    simp [Op.equalIn, run_underlying h, scEq, this]
  · simp [Op.equalIn, run_underlying h, scEq]
  · cases hs
theorem run_eqFields (hT : T.ok P) (n : Nat) (w : World) : ∀ (fs : List Field) (k : Nat) (xs ys : List Value) (XS YS : List Value), fldsOk T fs k xs ys = true → XS.drop k = xs → YS.drop k = ys →
    (Op.eqFields (n + 1) XS.toArray YS.toArray fs).run P w = .ok (allEq xs ys) w
  | [], _, xs, ys, XS, YS, h, _, _ => by
    cases xs with
    | nil => simp [Op.eqFields, allEq]
    | cons _ _ => cases ys <;> cases h
  | f :: fs, k, xs, ys, XS, YS, h, hx, hy => by
    cases xs with
    | nil => cases h
    | cons x xs =>
      cases ys with
      | nil => cases h
      | cons y ys =>
        simp only [fldsOk, Bool.and_eq_true] at h
        obtain ⟨⟨⟨h1, h2⟩, h3⟩, h4⟩ := h
        have hk := Nat.eq_of_beq_eq_true h2
        split at h3
        · rename_i e he
          simp only [Bool.and_eq_true, Bool.not_eq_true'] at h3
          have hu := (tget_ok hT he).und
          have gx : XS.toArray[k]? = some x := by
            have := congrArg (·[0]?) hx
            simpa using this
          have gy : YS.toArray[k]? = some y := by
            have := congrArg (·[0]?) hy
            simpa using this
          have hx' : XS.drop (k + 1) = xs := by rw [← List.drop_drop, hx]; rfl
          have hy' : YS.drop (k + 1) = ys := by rw [← List.drop_drop, hy]; rfl
          have ih := run_eqFields hT n w fs (k + 1) xs ys XS YS h4 hx' hy'
          have pa : ∀ (A : Array Value) (a : Value), A[k]? = some a → (part f.type A f.offset).run P w = .ok a w := by
            intro A a hA
            simp [part, run_isAgg hu, h3.1, hk, hA]
          have he' := run_scEq hu h3.2 n w
          have hn : f.name ≠ "_" := by
            intro e0
            rw [e0] at h1
            exact absurd h1 (by decide)
          simp only [Op.eqFields, if_pos hn]
          rw [run_bind' _ _ _ _ _ (pa _ _ gx), run_bind' _ _ _ _ _ (pa _ _ gy), run_bind' _ _ _ _ _ he']
          simp only [allEq]
          cases scEq x y with
          | false => simp
          | true => simpa using ih
        · cases h3
theorem run_stEq (hT : T.ok P) {t : TypeId} {xs ys : List Value} (h : stOk T t xs ys = true) (hp : P.stoodInHeld t = false) (w : World) : (Op.equal t (.agg xs.toArray) (.agg ys.toArray)).run P w = .ok (allEq xs ys) w := by
  unfold stOk at h
  split at h
  · rename_i fs _ _ _ he
    have hu := (tget_ok hT he).und
    have hf : P.fieldsOf t = fs := by unfold Program.fieldsOf; rw [hu]
    have := run_equalIn_struct (P := P) w 9999 t xs.toArray ys.toArray (by rw [hf]; exact hu) hp
    rw [hf] at this
    unfold Op.equal
    rw [show Op.maxDepth = 9999 + 1 from rfl, this]
    exact run_eqFields hT 9998 w fs.toList 0 xs ys xs ys h rfl rfl
  · cases h
variable {n : Nat} {f : Fr} {dst : Option Nat} {ty t t2 : TypeId} {pos : String} {aft : Array Edge} {gd : Option (Nat × Bool)} {x y : Operand} {xs ys : List Value}
theorem PV.steql (hT : T.ok P) (hp : P.stoodInHeld t = false) (hq : P.eqGuardType P.depth t = false) (hx : ev n f x = .agg xs.toArray) (hy : ev n f y = .agg ys.toArray) (h : stOk T t xs ys = true) : PV P n f ⟨dst, .binOp .eql t x y t2, ty, pos, aft, gd⟩ (.bool (allEq xs ys)) := by
  unfold PV; intro w; simp [execOp, hx, hy, eqGuard, binOp, run_stEq hT h hp, Result.andThen, hq]
theorem PV.stneq (hT : T.ok P) (hp : P.stoodInHeld t = false) (hq : P.eqGuardType P.depth t = false) (hx : ev n f x = .agg xs.toArray) (hy : ev n f y = .agg ys.toArray) (h : stOk T t xs ys = true) : PV P n f ⟨dst, .binOp .neq t x y t2, ty, pos, aft, gd⟩ (.bool (!allEq xs ys)) := by
  unfold PV; intro w; simp [execOp, hx, hy, eqGuard, binOp, run_stEq hT h hp, Result.andThen, hq]
end
/-! ### what an operation leaves, let go of or frozen -/
section
variable {P : Program} {all : List Oper} {n : Nat} {r : List Oper} {f : Fr} {i : Imm} {L : SH} {dst : Option Nat} {ty : TypeId} {pos : String} {aft : Array Edge} {gd : Option (Nat × Bool)} {T : Tab}
theorem OpS.state {o : Oper} {K K' : Value → Imm → SH → Prop} (h : OpS P n o f i L K) (hk : ∀ v i' L' w, i.le i' → St i' L' w → K v i' L' → ∃ i'' L'', i'.le i'' ∧ St i'' L'' w ∧ K' v i'' L'') : OpS P n o f i L K' := by
  unfold OpS at *
  intro w hw
  exact (h w hw).mono fun v w' ⟨i', L', h1, h2, h3⟩ => let ⟨i'', L'', h4, h5, h6⟩ := hk v i' L' w' h1 h2 h3; ⟨i'', L'', h1.trans h4, h5, h6⟩
/-- a list that is written out and only read -/
theorem OpS.buildSliceF (hT : T.ok P) {t len e sz : Nat} {parts : Array (Nat × Operand)} {cs : List Value} (h : bsl T n f t len parts.toList = some (e, cs)) (hl : cs.length = len * sz) :
    OpS P n ⟨dst, .buildSlice t len parts, ty, pos, aft, gd⟩ f i L fun v i' L' => L' = L ∧ ∃ b, v = .slice (some ⟨b, 0, none⟩) len len ∧ Sl i' v sz len cs := by
  refine OpS.state (OpS.buildSlice (K := fun v i' L' => ∃ b, v = .slice (some ⟨b, 0, none⟩) len len ∧ L' = (b, .cells cs.toArray e (0, 0)) :: L) hT h fun b => ⟨b, rfl, rfl⟩) ?_
  rintro v i' L' w _ hs ⟨b, rfl, rfl⟩
  obtain ⟨h3, h4⟩ := St.freeze hs
  exact ⟨_, L, h3, h4, rfl, b, rfl, some ⟨b, 0, none⟩, len, rfl, hl, .inr ⟨b, 0, cs, e, (0, 0), rfl, by simp [Imm.add], fun j _ => by rw [Nat.zero_add]⟩⟩
theorem RS.buildSliceF {K : Fr → Imm → SH → Prop} (hT : T.ok P) (sz : Nat) {t len e : Nat} {parts : Array (Nat × Operand)} {cs : List Value} (hg : gok n f all ⟨dst, .buildSlice t len parts, ty, pos, aft, gd⟩ = true) (h : bsl T n f t len parts.toList = some (e, cs)) (hl : cs.length = len * sz)
    (k : ∀ b i', i.le i' → Sl i' (.slice (some ⟨b, 0, none⟩) len len) sz len cs → RS P all n r (updO f dst (.slice (some ⟨b, 0, none⟩) len len)) i' L K) : RS P all n (⟨dst, .buildSlice t len parts, ty, pos, aft, gd⟩ :: r) f i L K := by
  refine RS.step hg (OpS.mono (OpS.buildSliceF (sz := sz) hT h hl) ?_)
  rintro v i' L' hi ⟨rfl, b, rfl, hs⟩
  exact k b i' hi hs
end
/-! ### drawn regions with turns: an operation that holds in every state -/
section
variable {P : Program} {all : List Oper} {n : Nat} {i0 : Imm} {Ls : List SH} {lc : List Nat} {Kont : Kap → Prop} {f : Fr} {F : List (Nat × (Imm → Value → Prop))} {r : List Nat} {k : Nat}
theorem GS.factA {o : Oper} {d : Nat} (K : Imm → Value → Prop) (hmono : Mono K) (ho : all[k]? = some o) (hdst : o.dst = some d) (hs : noSel o = true) (hlc : lc.contains k = false)
    (hv : ∀ i', i0.le i' → ∀ L ∈ Ls, kqs F (o.looksAt all.toArray) f i' fun g => gok n g all o = true ∧ OpS P n o g i' L fun u i'' L'' => L'' = L ∧ K i'' u) (hne : ∃ L, L ∈ Ls) (h : GS P all n i0 Ls lc Kont r f ((d, K) :: F)) : GS P all n i0 Ls lc Kont (k :: r) f F := by
  refine GS.gen K hmono ho (fun i' hi g hgg => ?_) (by rw [hdst]; exact updK_fact) h
  have hnot : k ∉ lc := by intro hin; have : lc.contains k = true := by simpa using hin
                           rw [this] at hlc; cases hlc
  obtain ⟨L0, hL0⟩ := hne
  refine ⟨?_, fun _ L' hL' => ?_, fun q hq => absurd (List.mem_of_getElem? hq) hnot⟩
  · obtain ⟨f1, ⟨h1, h2⟩, heq⟩ := kqs_eq (hv i' hi L0 hL0) hgg
    rw [← gok_congr heq]; exact h1
  · obtain ⟨f1, ⟨h1, h2⟩, heq⟩ := kqs_eq (hv i' hi L' hL') hgg
    exact OpS.congr (noSel_spec hs) (ev_congr heq) h2
theorem GS.valA {o : Oper} {v : Value} (ho : all[k]? = some o) (hs : noSel o = true) (hd : dstFree F o.dst = true) (hlc : lc.contains k = false)
    (hv : ∀ i', i0.le i' → ∀ L ∈ Ls, kqs F (o.looksAt all.toArray) f i' fun g => gok n g all o = true ∧ OpS P n o g i' L fun u _ L'' => L'' = L ∧ u = v) (hne : ∃ L, L ∈ Ls) (h : GS P all n i0 Ls lc Kont r (updO f o.dst v) F) : GS P all n i0 Ls lc Kont (k :: r) f F := by
  refine GS.gen (fun _ u => u = v) (fun _ _ _ _ h => h) ho (fun i' hi g hgg => ?_) (updK_fix hd) h
  have hnot : k ∉ lc := by intro hin; have : lc.contains k = true := by simpa using hin
                           rw [this] at hlc; cases hlc
  obtain ⟨L0, hL0⟩ := hne
  refine ⟨?_, fun _ L' hL' => ?_, fun q hq => absurd (List.mem_of_getElem? hq) hnot⟩
  · obtain ⟨f1, ⟨h1, h2⟩, heq⟩ := kqs_eq (hv i' hi L0 hL0) hgg
    rw [← gok_congr heq]; exact h1
  · obtain ⟨f1, ⟨h1, h2⟩, heq⟩ := kqs_eq (hv i' hi L' hL') hgg
    exact OpS.congr (noSel_spec hs) (ev_congr heq) h2
end
end Go.Eng
namespace Go.Eng
open Go
/-- a row that was built is let be: from here on it is only read -/
theorem CS.freezeSl {P : Program} {m : Nat} {c : Code} {f : Fr} {i : Imm} {L L0 : SH} {Q : Ex → Fr → Imm → SH → Prop} {e : TypeId} {v : Value} {sz n : Nat} {xs : List Value} {O : SH} (hO : SlO e v sz n xs O) (hL : L.Perm (O ++ L0))
    (h : ∀ i', i.le i' → Sl i' v sz n xs → CS P m c f i' L0 Q) : CS P m c f i L Q :=
  CS.state fun _ hw => let ⟨i', h1, h2, h3⟩ := hO.freeze (hw.perm hL); ⟨i', L0, h1, h2, h i' h1 h3⟩
end Go.Eng
