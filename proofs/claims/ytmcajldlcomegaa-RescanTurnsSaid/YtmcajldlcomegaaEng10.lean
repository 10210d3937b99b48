/- The proof engine, part 10: results of several kinds, contracts in a context. No condition. -/
import Derived.Test.YtmcajldlcomegaaEng9
namespace Go.Eng
open Go
/-- a plain value and a struct -/
theorem FnS.introTC {P : Program} {T : Tab} (hT : T.ok P) {g : FuncId} {fn : Func} {c : Code} {args : List Value} {i : Imm} {L : SH} {Post : Value → Imm → SH → Prop} {n a t r : Nat}
    (hf : P.funcs[g]? = some fn) (hb : fn.body = some c) (hn : fn.ntmps = n) (hl : args.length ≤ n) (hres : fn.results = #[.tmp r, .cell a t])
    (h : CS P n c (argF 0 args) i L (retQ fun f i' L' => ∃ b off cs t' fz v, ev n f (.tmp a) = .pointer (some ⟨b, off, none⟩) ∧ Has i' L' b (.cells (List.toArray cs) t' fz) ∧ ldV T t off cs = some v ∧ Post (.tuple #[ev n f (.tmp r), v]) i' L')) : FnS P g args i L Post :=
  FnS.body hf hb hn hl _ (fun f i' L' w hs ⟨b, off, cs, t', fz, v, h1, h2, h3, h4⟩ => by
    have h5 := run_ldV hT (h2.block hs) h3
    have h6 : (loadVar t ⟨b, off, none⟩).run P w = .ok v w := by simpa [Instr.loadAt, Instr.sureAddr] using h5
    refine ⟨_, ?_, h4⟩
    simp only [results, hres]
    have h8 : (ofF n f).tmps[a]?.getD undef = .pointer (some ⟨b, off, none⟩) := by rw [evt]; exact h1
    have h9 := evt n f r
    simp [h8, asAddr, h6, h9]) h
/-- a struct and two plain values -/
theorem FnS.introCTT {P : Program} {T : Tab} (hT : T.ok P) {g : FuncId} {fn : Func} {c : Code} {args : List Value} {i : Imm} {L : SH} {Post : Value → Imm → SH → Prop} {n a t r s : Nat}
    (hf : P.funcs[g]? = some fn) (hb : fn.body = some c) (hn : fn.ntmps = n) (hl : args.length ≤ n) (hres : fn.results = #[.cell a t, .tmp r, .tmp s])
    (h : CS P n c (argF 0 args) i L (retQ fun f i' L' => ∃ b off cs t' fz v, ev n f (.tmp a) = .pointer (some ⟨b, off, none⟩) ∧ Has i' L' b (.cells (List.toArray cs) t' fz) ∧ ldV T t off cs = some v ∧ Post (.tuple #[v, ev n f (.tmp r), ev n f (.tmp s)]) i' L')) : FnS P g args i L Post :=
  FnS.body hf hb hn hl _ (fun f i' L' w hs ⟨b, off, cs, t', fz, v, h1, h2, h3, h4⟩ => by
    have h5 := run_ldV hT (h2.block hs) h3
    have h6 : (loadVar t ⟨b, off, none⟩).run P w = .ok v w := by simpa [Instr.loadAt, Instr.sureAddr] using h5
    refine ⟨_, ?_, h4⟩
    simp only [results, hres]
    have h8 : (ofF n f).tmps[a]?.getD undef = .pointer (some ⟨b, off, none⟩) := by rw [evt]; exact h1
    have h9 := evt n f r
    have h10 := evt n f s
    simp [h8, asAddr, h6, h9, h10]) h
/-- a contract that turns B, seen from a heap with A ahead of B -/
theorem FnS.ctx {P : Program} {g : FuncId} {args : List Value} {i : Imm} (A : SH) {B R : SH} {X : Type} {φ : X → Value → Imm → Prop} {B' : X → SH}
    (h : FnS P g args i (B ++ (A ++ R)) fun v i' L' => ∃ x, φ x v i' ∧ L' = B' x ++ (A ++ R)) : FnS P g args i (A ++ (B ++ R)) fun v i' L' => ∃ x, φ x v i' ∧ L' = A ++ (B' x ++ R) := by
  refine FnS.state (FnS.frame (List.perm_append_comm_assoc A B R) h) ?_
  rintro v i' L' w _ hs ⟨x, hx, rfl⟩
  exact ⟨i', _, Imm.le.refl i', hs.perm (List.perm_append_comm_assoc _ _ _), x, hx, rfl⟩
end Go.Eng
namespace Go.Eng
open Go
/-- a sequence cut in two: 'slots' are all that the second part reads -/
theorem CS.cut {P : Program} {n : Nat} {x y : Code} {f : Fr} {i : Imm} {L : SH} {Q : Ex → Fr → Imm → SH → Prop} (slots : List Nat) (I : List Value → Imm → SH → Prop)
    (h1 : CS P n x f i L (thenQ (fun f' i' L' => I (slots.map f') i' L') Q)) (h2 : ∀ g vs i' L', i.le i' → I vs i' L' → CS P n y (updL g slots vs) i' L' Q) : CS P n (.seq x y) f i L Q := by
  refine CS.seq (CS.mono h1 fun e f' i' L' hi q => ?_)
  unfold thenQ at *
  cases e with
  | normal =>
    have := h2 f' _ i' L' hi q
    rw [updL_map] at this
    exact this
  | exit id => exact q
  | ret => exact q
end Go.Eng
namespace Go.Eng
open Go
section
variable {P : Program} {n : Nat} {f : Fr} {i : Imm} {L : SH} {dst : Option Nat} {ty : TypeId} {pos : String} {aft : Array Edge} {gd : Option (Nat × Bool)} {T : Tab} {v : Value}
/-- an operation without memory, as an obligation -/
theorem OpS.pv {op : Op} (h : PV P n f ⟨dst, op, ty, pos, aft, gd⟩ v) : OpS P n ⟨dst, op, ty, pos, aft, gd⟩ f i L fun u _ L'' => L'' = L ∧ u = v := by
  unfold PV at h
  exact OpS.value (fun w _ => h w) ⟨rfl, rfl⟩
theorem OpS.lv {op : Op} (h : LV P n f i L ⟨dst, op, ty, pos, aft, gd⟩ v) : OpS P n ⟨dst, op, ty, pos, aft, gd⟩ f i L fun u _ L'' => L'' = L ∧ u = v := by
  unfold LV at h
  exact OpS.value (fun w hw => h w hw) ⟨rfl, rfl⟩
theorem OpS.len (hT : T.ok P) {t : Nat} {x : Operand} {a : Option Addr} {l c : Nat} (ht : tIs T isSlD t = true) (hx : ev n f x = .slice a l c) :
    OpS P n ⟨dst, .call ⟨.builtin .len, #[x], #[t]⟩, ty, pos, aft, gd⟩ f i L fun u _ L'' => L'' = L ∧ u = .int .i64 l :=
  OpS.pv (PV.lenS hT ht hx)
end
end Go.Eng
