/- The proof engine, part 2: the operations that touch no memory. No condition. -/
import Derived.Test.YtmcajldlcomegaaEng1
namespace Go.Eng
open Go

/-! ### types, as a table -/
structure TyE where
  desc : TypeDesc
  size : Nat
  bytes : Nat
  zero : List Value
def isAggD : TypeDesc → Bool
  | .struct _ => true
  | .array _ _ => true
  | _ => false
structure TyE.ok (P : Program) (t : Nat) (e : TyE) : Prop where
  und : P.underlying t = some e.desc
  zlen : e.zero.length = e.size
  info : ∃ i z, P.info? t = some i ∧ i.size = e.size ∧ i.bytes = e.bytes ∧ i.zero = some z ∧ z.cells = e.zero.toArray
abbrev Tab := List (Nat × TyE)
def Tab.ok (P : Program) (T : Tab) : Prop := ∀ p ∈ T, TyE.ok P p.1 p.2
def tget : Tab → Nat → Option TyE
  | [], _ => none
  | (s, e) :: T, t => bif Nat.beq t s then some e else tget T t
theorem tget_ok {P : Program} {T : Tab} (h : T.ok P) {t : Nat} {e : TyE} (ht : tget T t = some e) : TyE.ok P t e := by
  induction T with
  | nil => cases ht
  | cons p T ih =>
    obtain ⟨s, e'⟩ := p
    simp only [tget] at ht
    cases hb : Nat.beq t s with
    | true =>
      rw [hb] at ht
      cases ht
      have := Nat.eq_of_beq_eq_true hb
      subst this
      exact h (t, e) (List.mem_cons_self ..)
    | false =>
      rw [hb] at ht
      exact ih (fun p hp => h p (List.mem_cons_of_mem _ hp)) ht

/-! ### strict copies -/
def sv : Value → Option Value
  | .bool b => some (.bool b)
  | .int k n => some (.int k n)
  | .float k b => some (.float k b)
  | .complex k a b => some (.complex k a b)
  | .string s => some (.string s)
  | .pointer a => some (.pointer a)
  | .slice a l c => some (.slice a l c)
  | .map r => some (.map r)
  | .chan r => some (.chan r)
  | .func a b c => some (.func a b c)
  | .nilFunc => some .nilFunc
  | .iface t v => some (.iface t v)
  | .nilIface => some .nilIface
  | .agg cs => some (.agg cs)
  | .tuple vs => some (.tuple vs)
theorem sv_eq (v : Value) : sv v = some v := by cases v <;> rfl
def takeX {α : Type} : Nat → List α → Option (List α)
  | 0, _ => some []
  | k + 1, a :: l => match takeX k l with
    | some r => some (a :: r)
    | none => none
  | _ + 1, [] => none
theorem takeX_eq {α : Type} : ∀ (k : Nat) (l r : List α), takeX k l = some r → l.take k = r ∧ r.length = k
  | 0, l, r, h => by cases h; exact ⟨rfl, rfl⟩
  | k + 1, [], r, h => by cases h
  | k + 1, a :: l, r, h => by
    simp only [takeX] at h
    split at h
    · rename_i r' h'
      cases h
      obtain ⟨e1, e2⟩ := takeX_eq k l r' h'
      exact ⟨by simp [e1], by simp [e2]⟩
    · cases h
def setX {α : Type} : List α → Nat → α → Option (List α)
  | [], _, _ => none
  | _ :: l, 0, v => some (v :: l)
  | a :: l, k + 1, v => match setX l k v with
    | some r => some (a :: r)
    | none => none
theorem setX_eq {α : Type} : ∀ (l : List α) (k : Nat) (v : α) (r : List α), setX l k v = some r → l.set k v = r ∧ k < l.length
  | [], k, v, r, h => by cases h
  | _ :: l, 0, v, r, h => by cases h; exact ⟨rfl, by simp⟩
  | a :: l, k + 1, v, r, h => by
    simp only [setX] at h
    split at h
    · rename_i r' h'
      cases h
      obtain ⟨e1, e2⟩ := setX_eq l k v r' h'
      exact ⟨by simp [e1], by simp; omega⟩
    · cases h

/-! ### an operation without memory -/
@[irreducible] def PV (P : Program) (n : Nat) (f : Fr) (o : Oper) (v : Value) : Prop := ∀ w, (execOp (ev n f) o).run P w = .ok (.value v) w
/-- an operation that reads the heap alone -/
@[irreducible] def LV (P : Program) (n : Nat) (f : Fr) (i : Imm) (L : SH) (o : Oper) (v : Value) : Prop := ∀ w, St i L w → (execOp (ev n f) o).run P w = .ok (.value v) w

section
variable {P : Program} {all : List Oper} {n : Nat} {r : List Oper} {f : Fr} {i : Imm} {L : SH} {K : Fr → Imm → SH → Prop} {v : Value}
theorem RS.pv {dst : Option Nat} {op : Op} {ty : TypeId} {pos : String} {aft : Array Edge} {gd : Option (Nat × Bool)} (h : PV P n f ⟨dst, op, ty, pos, aft, gd⟩ v) (hg : gok n f all ⟨dst, op, ty, pos, aft, gd⟩ = true) (k : RS P all n r (updO f dst v) i L K) : RS P all n (⟨dst, op, ty, pos, aft, gd⟩ :: r) f i L K :=
  by unfold PV at h; exact RS.step hg (OpS.value (fun w _ => h w) k)
theorem RS.lv {dst : Option Nat} {op : Op} {ty : TypeId} {pos : String} {aft : Array Edge} {gd : Option (Nat × Bool)} (h : LV P n f i L ⟨dst, op, ty, pos, aft, gd⟩ v) (hg : gok n f all ⟨dst, op, ty, pos, aft, gd⟩ = true) (k : RS P all n r (updO f dst v) i L K) : RS P all n (⟨dst, op, ty, pos, aft, gd⟩ :: r) f i L K :=
  by unfold LV at h; exact RS.step hg (OpS.value h k)
end

section
variable {P : Program} {n : Nat} {f : Fr} {dst : Option Nat} {ty : TypeId} {pos : String} {aft : Array Edge} {gd : Option (Nat × Bool)} {v : Value} {T : Tab}

theorem PV.move {x : Operand} (h : sv (ev n f x) = some v) : PV P n f ⟨dst, .move x, ty, pos, aft, gd⟩ v := by
  unfold PV; intro w; rw [sv_eq] at h; cases h; simp [execOp]
theorem PV.assign {x : Operand} (h : sv (ev n f x) = some v) : PV P n f ⟨dst, .assign x, ty, pos, aft, gd⟩ v := by
  unfold PV; intro w; rw [sv_eq] at h; cases h; simp [execOp]
theorem PV.pickT {c a b : Operand} (hc : ev n f c = .bool true) (h : sv (ev n f a) = some v) : PV P n f ⟨dst, .pick c a b, ty, pos, aft, gd⟩ v := by
  unfold PV; intro w; rw [sv_eq] at h; cases h; simp [execOp, hc, asBool]
theorem PV.pickF {c a b : Operand} (hc : ev n f c = .bool false) (h : sv (ev n f b) = some v) : PV P n f ⟨dst, .pick c a b, ty, pos, aft, gd⟩ v := by
  unfold PV; intro w; rw [sv_eq] at h; cases h; simp [execOp, hc, asBool]
theorem PV.nilCheck {x : Operand} {a : Addr} (hx : ev n f x = .pointer (some a)) : PV P n f ⟨dst, .nilCheck x, ty, pos, aft, gd⟩ (.pointer (some a)) := by
  unfold PV; intro w; simp [execOp, hx]
theorem PV.extract {x : Operand} {ix : Nat} {vs : Array Value} (hx : ev n f x = .tuple vs) (h : vs[ix]? = some v) : PV P n f ⟨dst, .extract x ix, ty, pos, aft, gd⟩ v := by
  unfold PV; intro w; simp [execOp, hx, Instr.extract, h]

def fOff (T : Tab) (s fld : Nat) : Option Nat :=
  match tget T s with
  | some ⟨.struct fs, _, _, _⟩ => match fs[fld]? with
    | some fd => match tget T fd.type with
      | some e => bif Nat.beq e.size 0 then none else some fd.offset
      | none => none
    | none => none
  | _ => none
theorem Addr.add_none (b o k : Nat) : (⟨b, o, none⟩ : Addr).add k = ⟨b, o + k, none⟩ := by
  unfold Addr.add; split
  · rename_i h; subst h; rfl
  · rfl
theorem run_info {t : TypeId} {i : TypeInfo} (h : P.info? t = some i) (w : World) : (typeInfo t).run P w = .ok i w := by
  simp [typeInfo, h]
theorem PV.fieldAddr (hT : T.ok P) {s fld : Nat} {x : Operand} {b o off : Nat} (hx : ev n f x = .pointer (some ⟨b, o, none⟩)) (h : fOff T s fld = some off) :
    PV P n f ⟨dst, .fieldAddr s x fld, ty, pos, aft, gd⟩ (.pointer (some ⟨b, o + off, none⟩)) := by
  unfold PV; intro w
  unfold fOff at h
  split at h
  · rename_i fs _ _ _ he
    split at h
    · rename_i fd hfd
      split at h
      · rename_i e hee
        cases hb : Nat.beq e.size 0 with
        | true => rw [hb] at h; cases h
        | false =>
          rw [hb] at h
          cases h
          have h1 := (tget_ok hT he).und
          obtain ⟨_, _, i, z, hi, hs, _⟩ := tget_ok hT hee
          have hne : e.size ≠ 0 := fun e0 => by rw [e0] at hb; cases hb
          simp [execOp, hx, Instr.fieldAt, run_underlying h1, hfd, Instr.sureAddr, fieldPlace, sizeOf, run_info hi, hs, hne, Addr.add_none]
      · cases h
    · cases h
  · cases h

/-- a part of a struct's cells -/
def fVal (T : Tab) (s fld : Nat) (cs : List Value) : Option Value :=
  match tget T s with
  | some ⟨.struct fs, _, _, _⟩ => match fs[fld]? with
    | some fd => match tget T fd.type with
      | some e => bif isAggD e.desc then (match takeX e.size (cs.drop fd.offset) with | some l => some (.agg l.toArray) | none => none) else (match cs[fd.offset]? with | some v => sv v | none => none)
      | none => none
    | none => none
  | _ => none
theorem run_isAgg {t : TypeId} {d : TypeDesc} (h : P.underlying t = some d) (w : World) : (isAgg t).run P w = .ok (isAggD d) w := by
  cases d <;> simp [isAgg, run_underlying h, isAggD]
theorem PV.field (hT : T.ok P) {s fld : Nat} {x : Operand} {cs : List Value} (hx : ev n f x = .agg cs.toArray) (h : fVal T s fld cs = some v) :
    PV P n f ⟨dst, .field s x fld, ty, pos, aft, gd⟩ v := by
  unfold PV; intro w
  unfold fVal at h
  split at h
  · rename_i fs _ _ _ he
    split at h
    · rename_i fd hfd
      split at h
      · rename_i e hee
        have h1 := (tget_ok hT he).und
        obtain ⟨h2, _, i, z, hi, hs, _⟩ := tget_ok hT hee
        cases hb : isAggD e.desc with
        | true =>
          simp only [hb, cond_true] at h
          split at h
          · rename_i l hl
            cases h
            obtain ⟨e1, e2⟩ := takeX_eq _ _ _ hl
            have : cs.toArray.extract fd.offset (fd.offset + e.size) = l.toArray := by
              rw [← e1]; simp
            simp [execOp, hx, Instr.field, run_underlying h1, hfd, asAgg, part, run_isAgg h2, hb, sizeOf, run_info hi, hs, e1]
          · cases h
        | false =>
          simp only [hb, cond_false] at h
          split at h
          · rename_i u hu
            rw [sv_eq] at h; cases h
            simp [execOp, hx, Instr.field, run_underlying h1, hfd, asAgg, part, run_isAgg h2, hb, hu]
          · cases h
      · cases h
    · cases h
  · cases h
theorem PV.makeFunc {fn : Fn} {a c : Array Operand} : PV P n f ⟨dst, .makeFunc fn a c, ty, pos, aft, gd⟩ (.func fn (a.toList.map (ev n f)).toArray (c.toList.map (ev n f)).toArray) := by
  unfold PV; intro w
  have h1 : a.map (ev n f) = (a.toList.map (ev n f)).toArray := Array.ext' (by simp)
  have h2 : c.map (ev n f) = (c.toList.map (ev n f)).toArray := Array.ext' (by simp)
  simp only [execOp, Instr.makeFunc, h1, h2]
  rfl
theorem PV.not {t : Nat} {x : Operand} {b : Bool} (hx : ev n f x = .bool b) : PV P n f ⟨dst, .unOp .not t x, ty, pos, aft, gd⟩ (.bool (!b)) := by
  unfold PV; intro w; simp [execOp, hx, Op.unary]

/-! integers -/
theorem wrap_in (n : Int) (h : -9223372036854775808 ≤ n ∧ n ≤ 9223372036854775807) : IntKind.i64.wrap n = n := by
  rw [IntKind.wrap_i64]; omega
section
variable {t t2 : Nat} {x y : Operand} {a b : Int}
theorem PV.add (hx : ev n f x = .int .i64 a) (hy : ev n f y = .int .i64 b) (h : -9223372036854775808 ≤ a + b ∧ a + b ≤ 9223372036854775807) :
    PV P n f ⟨dst, .binOp .add t x y t2, ty, pos, aft, gd⟩ (.int .i64 (a + b)) := by
  unfold PV; intro w; simp [execOp, hx, hy, eqGuard, binOp, Op.intArith, wrap_in _ h]
theorem PV.sub (hx : ev n f x = .int .i64 a) (hy : ev n f y = .int .i64 b) (h : -9223372036854775808 ≤ a - b ∧ a - b ≤ 9223372036854775807) :
    PV P n f ⟨dst, .binOp .sub t x y t2, ty, pos, aft, gd⟩ (.int .i64 (a - b)) := by
  unfold PV; intro w; simp [execOp, hx, hy, eqGuard, binOp, Op.intArith, wrap_in _ h]
theorem PV.mul (hx : ev n f x = .int .i64 a) (hy : ev n f y = .int .i64 b) (h : -9223372036854775808 ≤ a * b ∧ a * b ≤ 9223372036854775807) :
    PV P n f ⟨dst, .binOp .mul t x y t2, ty, pos, aft, gd⟩ (.int .i64 (a * b)) := by
  unfold PV; intro w; simp [execOp, hx, hy, eqGuard, binOp, Op.intArith, wrap_in _ h]
theorem PV.rem (hx : ev n f x = .int .i64 a) (hy : ev n f y = .int .i64 b) (h : b ≠ 0) :
    PV P n f ⟨dst, .binOp .rem t x y t2, ty, pos, aft, gd⟩ (.int .i64 (a.tmod b)) := by
  unfold PV; intro w; simp [execOp, hx, hy, eqGuard, binOp, Op.intDiv, h]
theorem PV.quo (hx : ev n f x = .int .i64 a) (hy : ev n f y = .int .i64 b) (h : b ≠ 0) (h' : -9223372036854775808 ≤ a.tdiv b ∧ a.tdiv b ≤ 9223372036854775807) :
    PV P n f ⟨dst, .binOp .quo t x y t2, ty, pos, aft, gd⟩ (.int .i64 (a.tdiv b)) := by
  unfold PV; intro w; simp [execOp, hx, hy, eqGuard, binOp, Op.intDiv, h, wrap_in _ h']
theorem PV.lssT {k : IntKind} (hx : ev n f x = .int k a) (hy : ev n f y = .int k b) (h : a < b) : PV P n f ⟨dst, .binOp .lss t x y t2, ty, pos, aft, gd⟩ (.bool true) := by
  unfold PV; intro w; simp [execOp, hx, hy, eqGuard, binOp, Op.intCmp, h]
theorem PV.lssF {k : IntKind} (hx : ev n f x = .int k a) (hy : ev n f y = .int k b) (h : b ≤ a) : PV P n f ⟨dst, .binOp .lss t x y t2, ty, pos, aft, gd⟩ (.bool false) := by
  unfold PV; intro w; simp [execOp, hx, hy, eqGuard, binOp, Op.intCmp, h]
theorem PV.leqT {k : IntKind} (hx : ev n f x = .int k a) (hy : ev n f y = .int k b) (h : a ≤ b) : PV P n f ⟨dst, .binOp .leq t x y t2, ty, pos, aft, gd⟩ (.bool true) := by
  unfold PV; intro w; simp [execOp, hx, hy, eqGuard, binOp, Op.intCmp, h]
theorem PV.leqF {k : IntKind} (hx : ev n f x = .int k a) (hy : ev n f y = .int k b) (h : b < a) : PV P n f ⟨dst, .binOp .leq t x y t2, ty, pos, aft, gd⟩ (.bool false) := by
  unfold PV; intro w; simp [execOp, hx, hy, eqGuard, binOp, Op.intCmp, h]
theorem PV.gtrT {k : IntKind} (hx : ev n f x = .int k a) (hy : ev n f y = .int k b) (h : b < a) : PV P n f ⟨dst, .binOp .gtr t x y t2, ty, pos, aft, gd⟩ (.bool true) := by
  unfold PV; intro w; simp [execOp, hx, hy, eqGuard, binOp, Op.intCmp, h]
theorem PV.gtrF {k : IntKind} (hx : ev n f x = .int k a) (hy : ev n f y = .int k b) (h : a ≤ b) : PV P n f ⟨dst, .binOp .gtr t x y t2, ty, pos, aft, gd⟩ (.bool false) := by
  unfold PV; intro w; simp [execOp, hx, hy, eqGuard, binOp, Op.intCmp, h]
theorem PV.geqT {k : IntKind} (hx : ev n f x = .int k a) (hy : ev n f y = .int k b) (h : b ≤ a) : PV P n f ⟨dst, .binOp .geq t x y t2, ty, pos, aft, gd⟩ (.bool true) := by
  unfold PV; intro w; simp [execOp, hx, hy, eqGuard, binOp, Op.intCmp, h]
theorem PV.geqF {k : IntKind} (hx : ev n f x = .int k a) (hy : ev n f y = .int k b) (h : a < b) : PV P n f ⟨dst, .binOp .geq t x y t2, ty, pos, aft, gd⟩ (.bool false) := by
  unfold PV; intro w; simp [execOp, hx, hy, eqGuard, binOp, Op.intCmp, h]
theorem PV.eqlT {k : IntKind} (hx : ev n f x = .int k a) (hy : ev n f y = .int k b) (h : a = b) : PV P n f ⟨dst, .binOp .eql t x y t2, ty, pos, aft, gd⟩ (.bool true) := by
  unfold PV; intro w; simp [execOp, hx, hy, eqGuard, binOp, Op.intCmp, h]
theorem PV.eqlF {k : IntKind} (hx : ev n f x = .int k a) (hy : ev n f y = .int k b) (h : a ≠ b) : PV P n f ⟨dst, .binOp .eql t x y t2, ty, pos, aft, gd⟩ (.bool false) := by
  unfold PV; intro w; simp [execOp, hx, hy, eqGuard, binOp, Op.intCmp, h]
theorem PV.neqT {k : IntKind} (hx : ev n f x = .int k a) (hy : ev n f y = .int k b) (h : a ≠ b) : PV P n f ⟨dst, .binOp .neq t x y t2, ty, pos, aft, gd⟩ (.bool true) := by
  unfold PV; intro w; simp [execOp, hx, hy, eqGuard, binOp, Op.intCmp, h]
theorem PV.neqF {k : IntKind} (hx : ev n f x = .int k a) (hy : ev n f y = .int k b) (h : a = b) : PV P n f ⟨dst, .binOp .neq t x y t2, ty, pos, aft, gd⟩ (.bool false) := by
  unfold PV; intro w; simp [execOp, hx, hy, eqGuard, binOp, Op.intCmp, h]
/-! strings -/
theorem PV.seqlT {p q : ByteArray} (hx : ev n f x = .string p) (hy : ev n f y = .string q) (h : p.toList = q.toList) : PV P n f ⟨dst, .binOp .eql t x y t2, ty, pos, aft, gd⟩ (.bool true) := by
  unfold PV; intro w; simp [execOp, hx, hy, eqGuard, binOp, Op.stringOp, h]
theorem PV.seqlF {p q : ByteArray} (hx : ev n f x = .string p) (hy : ev n f y = .string q) (h : p.toList ≠ q.toList) : PV P n f ⟨dst, .binOp .eql t x y t2, ty, pos, aft, gd⟩ (.bool false) := by
  unfold PV; intro w; simp [execOp, hx, hy, eqGuard, binOp, Op.stringOp, h]
theorem PV.sneqT {p q : ByteArray} (hx : ev n f x = .string p) (hy : ev n f y = .string q) (h : p.toList ≠ q.toList) : PV P n f ⟨dst, .binOp .neq t x y t2, ty, pos, aft, gd⟩ (.bool true) := by
  unfold PV; intro w; simp [execOp, hx, hy, eqGuard, binOp, Op.stringOp, h]
theorem PV.sneqF {p q : ByteArray} (hx : ev n f x = .string p) (hy : ev n f y = .string q) (h : p.toList = q.toList) : PV P n f ⟨dst, .binOp .neq t x y t2, ty, pos, aft, gd⟩ (.bool false) := by
  unfold PV; intro w; simp [execOp, hx, hy, eqGuard, binOp, Op.stringOp, h]
end

/-! against nil -/
def isPtrD : TypeDesc → Bool
  | .pointer _ => true
  | _ => false
def isSlD : TypeDesc → Bool
  | .slice _ => true
  | _ => false
def isMapD : TypeDesc → Bool
  | .map _ _ => true
  | _ => false
def tIs (T : Tab) (p : TypeDesc → Bool) (t : Nat) : Bool :=
  match tget T t with
  | some e => p e.desc
  | none => false
theorem tIs_ptr (hT : T.ok P) {t : Nat} (h : tIs T isPtrD t = true) : ∃ e, P.underlying t = some (.pointer e) := by
  unfold tIs at h
  split at h
  · rename_i e he
    have h1 := (tget_ok hT he).und
    cases hd : e.desc <;> rw [hd] at h <;> first | exact ⟨_, by rw [h1, hd]⟩ | cases h
  · cases h
theorem tIs_sl (hT : T.ok P) {t : Nat} (h : tIs T isSlD t = true) : ∃ e, P.underlying t = some (.slice e) := by
  unfold tIs at h
  split at h
  · rename_i e he
    have h1 := (tget_ok hT he).und
    cases hd : e.desc <;> rw [hd] at h <;> first | exact ⟨_, by rw [h1, hd]⟩ | cases h
  · cases h
theorem tIs_map (hT : T.ok P) {t : Nat} (h : tIs T isMapD t = true) : ∃ k e, P.underlying t = some (.map k e) := by
  unfold tIs at h
  split at h
  · rename_i e he
    have h1 := (tget_ok hT he).und
    cases hd : e.desc <;> rw [hd] at h <;> first | exact ⟨_, _, by rw [h1, hd]⟩ | cases h
  · cases h
section
variable {t t2 : Nat} {x y : Operand}
theorem run_eq_ptr0 {t e : Nat} (h : P.underlying t = some (.pointer e)) (p : Option Addr) (d : Nat) (w : World) : (Op.equalIn (d + 1) t (.pointer p) (.pointer none)).run P w = .ok p.isNone w := by
  cases p <;> simp [Op.equalIn, run_underlying h]
theorem run_eq_ptr {t e : Nat} (h : P.underlying t = some (.pointer e)) (p : Option Addr) (w : World) : (Op.equal t (.pointer p) (.pointer none)).run P w = .ok p.isNone w :=
  run_eq_ptr0 h p 9999 w
theorem run_eq_sl0 {t e : Nat} (h : P.underlying t = some (.slice e)) (p : Option Addr) (l c : Nat) (d : Nat) (w : World) : (Op.equalIn (d + 1) t (.slice p l c) (.slice none 0 0)).run P w = .ok p.isNone w := by
  cases p <;> simp [Op.equalIn, run_underlying h]
theorem run_eq_sl {t e : Nat} (h : P.underlying t = some (.slice e)) (p : Option Addr) (l c : Nat) (w : World) : (Op.equal t (.slice p l c) (.slice none 0 0)).run P w = .ok p.isNone w :=
  run_eq_sl0 h p l c 9999 w
theorem run_eq_map0 {t k e : Nat} (h : P.underlying t = some (.map k e)) (p : Option Nat) (d : Nat) (w : World) : (Op.equalIn (d + 1) t (.map p) (.map none)).run P w = .ok p.isNone w := by
  cases p <;> simp [Op.equalIn, run_underlying h]
theorem run_eq_map {t k e : Nat} (h : P.underlying t = some (.map k e)) (p : Option Nat) (w : World) : (Op.equal t (.map p) (.map none)).run P w = .ok p.isNone w :=
  run_eq_map0 h p 9999 w
theorem run_eq_rtp0 {t e : Nat} (h : P.underlying t = some (.pointer e)) (p : Option Addr) (d : Nat) (w : World) : (Op.equalIn (d + 1) t (.pointer none) (.pointer p)).run P w = .ok p.isNone w := by
  cases p <;> simp [Op.equalIn, run_underlying h]
theorem run_eq_rtp {t e : Nat} (h : P.underlying t = some (.pointer e)) (p : Option Addr) (w : World) : (Op.equal t (.pointer none) (.pointer p)).run P w = .ok p.isNone w :=
  run_eq_rtp0 h p 9999 w
theorem PV.eqlNP (hT : T.ok P) (ht : tIs T isPtrD t = true) {a : Addr} (hx : ev n f x = .pointer none) (hy : ev n f y = .pointer (some a)) : PV P n f ⟨dst, .binOp .eql t x y t2, ty, pos, aft, gd⟩ (.bool false) := by
  unfold PV; intro w; obtain ⟨e, he⟩ := tIs_ptr hT ht; simp [execOp, hx, hy, eqGuard, binOp, run_eq_rtp he]
theorem PV.neqNP (hT : T.ok P) (ht : tIs T isPtrD t = true) {a : Addr} (hx : ev n f x = .pointer none) (hy : ev n f y = .pointer (some a)) : PV P n f ⟨dst, .binOp .neq t x y t2, ty, pos, aft, gd⟩ (.bool true) := by
  unfold PV; intro w; obtain ⟨e, he⟩ := tIs_ptr hT ht; simp [execOp, hx, hy, eqGuard, binOp, run_eq_rtp he]
theorem PV.eqlPN (hT : T.ok P) (ht : tIs T isPtrD t = true) (hx : ev n f x = .pointer none) (hy : ev n f y = .pointer none) : PV P n f ⟨dst, .binOp .eql t x y t2, ty, pos, aft, gd⟩ (.bool true) := by
  unfold PV; intro w; obtain ⟨e, he⟩ := tIs_ptr hT ht; simp [execOp, hx, hy, eqGuard, binOp, run_eq_ptr he]
theorem PV.eqlPS (hT : T.ok P) (ht : tIs T isPtrD t = true) {a : Addr} (hx : ev n f x = .pointer (some a)) (hy : ev n f y = .pointer none) : PV P n f ⟨dst, .binOp .eql t x y t2, ty, pos, aft, gd⟩ (.bool false) := by
  unfold PV; intro w; obtain ⟨e, he⟩ := tIs_ptr hT ht; simp [execOp, hx, hy, eqGuard, binOp, run_eq_ptr he]
theorem PV.neqPN (hT : T.ok P) (ht : tIs T isPtrD t = true) (hx : ev n f x = .pointer none) (hy : ev n f y = .pointer none) : PV P n f ⟨dst, .binOp .neq t x y t2, ty, pos, aft, gd⟩ (.bool false) := by
  unfold PV; intro w; obtain ⟨e, he⟩ := tIs_ptr hT ht; simp [execOp, hx, hy, eqGuard, binOp, run_eq_ptr he]
theorem PV.neqPS (hT : T.ok P) (ht : tIs T isPtrD t = true) {a : Addr} (hx : ev n f x = .pointer (some a)) (hy : ev n f y = .pointer none) : PV P n f ⟨dst, .binOp .neq t x y t2, ty, pos, aft, gd⟩ (.bool true) := by
  unfold PV; intro w; obtain ⟨e, he⟩ := tIs_ptr hT ht; simp [execOp, hx, hy, eqGuard, binOp, run_eq_ptr he]
theorem PV.eqlSN (hT : T.ok P) (ht : tIs T isSlD t = true) {l c : Nat} (hx : ev n f x = .slice none l c) (hy : ev n f y = .slice none 0 0) : PV P n f ⟨dst, .binOp .eql t x y t2, ty, pos, aft, gd⟩ (.bool true) := by
  unfold PV; intro w; obtain ⟨e, he⟩ := tIs_sl hT ht; simp [execOp, hx, hy, eqGuard, binOp, run_eq_sl he]
theorem PV.eqlSS (hT : T.ok P) (ht : tIs T isSlD t = true) {a : Addr} {l c : Nat} (hx : ev n f x = .slice (some a) l c) (hy : ev n f y = .slice none 0 0) : PV P n f ⟨dst, .binOp .eql t x y t2, ty, pos, aft, gd⟩ (.bool false) := by
  unfold PV; intro w; obtain ⟨e, he⟩ := tIs_sl hT ht; simp [execOp, hx, hy, eqGuard, binOp, run_eq_sl he]
theorem PV.eqlMN (hT : T.ok P) (ht : tIs T isMapD t = true) (hx : ev n f x = .map none) (hy : ev n f y = .map none) : PV P n f ⟨dst, .binOp .eql t x y t2, ty, pos, aft, gd⟩ (.bool true) := by
  unfold PV; intro w; obtain ⟨k, e, he⟩ := tIs_map hT ht; simp [execOp, hx, hy, eqGuard, binOp, run_eq_map he]
theorem PV.eqlMS (hT : T.ok P) (ht : tIs T isMapD t = true) {a : Nat} (hx : ev n f x = .map (some a)) (hy : ev n f y = .map none) : PV P n f ⟨dst, .binOp .eql t x y t2, ty, pos, aft, gd⟩ (.bool false) := by
  unfold PV; intro w; obtain ⟨k, e, he⟩ := tIs_map hT ht; simp [execOp, hx, hy, eqGuard, binOp, run_eq_map he]
end

/-! builtins -/
theorem PV.lenS (hT : T.ok P) {t : Nat} {x : Operand} {a : Option Addr} {l c : Nat} (ht : tIs T isSlD t = true) (hx : ev n f x = .slice a l c) :
    PV P n f ⟨dst, .call ⟨.builtin .len, #[x], #[t]⟩, ty, pos, aft, gd⟩ (.int .i64 l) := by
  unfold PV; intro w; obtain ⟨e, he⟩ := tIs_sl hT ht; simp [execOp, resolve, invoke, builtin, Builtin.len_, hx, run_underlying he, goInt]
def isStrD : TypeDesc → Bool
  | .string => true
  | _ => false
theorem tIs_str (hT : T.ok P) {t : Nat} (h : tIs T isStrD t = true) : P.underlying t = some .string := by
  unfold tIs at h
  split at h
  · rename_i e he
    have h1 := (tget_ok hT he).und
    cases hd : e.desc <;> rw [hd] at h <;> first | (cases h; done) | (rw [h1, hd]; done)
  · cases h
theorem PV.lenT (hT : T.ok P) {t : Nat} {x : Operand} {s : ByteArray} (ht : tIs T isStrD t = true) (hx : ev n f x = .string s) :
    PV P n f ⟨dst, .call ⟨.builtin .len, #[x], #[t]⟩, ty, pos, aft, gd⟩ (.int .i64 s.size) := by
  unfold PV; intro w; have he := tIs_str hT ht; simp [execOp, resolve, invoke, builtin, Builtin.len_, hx, run_underlying he, goInt]
theorem PV.maxI {t1 t2 : Nat} {x y : Operand} {a b : Int} (hx : ev n f x = .int .i64 a) (hy : ev n f y = .int .i64 b) :
    PV P n f ⟨dst, .call ⟨.builtin .max, #[x, y], #[t1, t2]⟩, ty, pos, aft, gd⟩ (.int .i64 (max a b)) := by
  unfold PV; intro w
  have : (if a < b then b else a) = max a b := by omega
  simp [execOp, resolve, invoke, builtin, Builtin.max_, Builtin.max2, hx, hy, this]
theorem PV.minI {t1 t2 : Nat} {x y : Operand} {a b : Int} (hx : ev n f x = .int .i64 a) (hy : ev n f y = .int .i64 b) :
    PV P n f ⟨dst, .call ⟨.builtin .min, #[x, y], #[t1, t2]⟩, ty, pos, aft, gd⟩ (.int .i64 (min a b)) := by
  unfold PV; intro w
  have : (if b < a then b else a) = min a b := by omega
  simp [execOp, resolve, invoke, builtin, Builtin.min_, Builtin.min2, hx, hy, this]

/-! an element's address -/
def elSz (T : Tab) (t : Nat) : Option Nat :=
  match tget T t with
  | some ⟨.slice e, _, _, _⟩ => match tget T e with
    | some x => some x.size
    | none => none
  | _ => none
theorem elSz_ok (hT : T.ok P) {t sz : Nat} (h : elSz T t = some sz) : ∃ e i z x, P.underlying t = some (.slice e) ∧ P.info? e = some i ∧ i.size = sz ∧ i.zero = some z ∧ tget T e = some x ∧ x.size = sz ∧ i.bytes = x.bytes ∧ z.cells = x.zero.toArray := by
  unfold elSz at h
  split at h
  · rename_i e _ _ _ he
    split at h
    · rename_i x hx
      cases h
      obtain ⟨_, _, i, z, h1, h2, h3, h4, h5⟩ := tget_ok hT hx
      exact ⟨e, i, z, x, (tget_ok hT he).und, h1, h2, h4, hx, rfl, h3, h5⟩
    · cases h
  · cases h
theorem PV.indexAddr (hT : T.ok P) {t sz : Nat} {x y : Operand} {b o l c : Nat} {j : Int} {k : IntKind} (hx : ev n f x = .slice (some ⟨b, o, none⟩) l c) (hy : ev n f y = .int k j) (hs : elSz T t = some sz)
    (h : 0 ≤ j ∧ j < l) : PV P n f ⟨dst, .indexAddr t x y, ty, pos, aft, gd⟩ (.pointer (some ⟨b, o + j.toNat * sz, none⟩)) := by
  unfold PV; intro w
  obtain ⟨e, i, z, x', h1, h2, h3, h4, _⟩ := elSz_ok hT hs
  simp [execOp, hx, hy, Instr.indexAt, asIntOf, run_underlying h1, h, sizeOf, run_info h2, h3, Addr.add_none]
def arSz (T : Tab) (t : Nat) : Option (Nat × Nat) :=
  match tget T t with
  | some ⟨.array l e, _, _, _⟩ => match tget T e with
    | some x => some (l, x.size)
    | none => none
  | _ => none
theorem arSz_ok (hT : T.ok P) {t l sz : Nat} (h : arSz T t = some (l, sz)) : ∃ e i, P.underlying t = some (.array l e) ∧ P.info? e = some i ∧ i.size = sz := by
  unfold arSz at h
  split at h
  · rename_i e _ _ _ he
    split at h
    · rename_i x hx
      cases h
      obtain ⟨_, _, i, z, h1, h2, h3, h4, h5⟩ := tget_ok hT hx
      exact ⟨e, i, (tget_ok hT he).und, h1, h2⟩
    · cases h
  · cases h
theorem PV.indexAddrA (hT : T.ok P) {t sz l : Nat} {x y : Operand} {b o : Nat} {j : Int} {k : IntKind} (hx : ev n f x = .pointer (some ⟨b, o, none⟩)) (hy : ev n f y = .int k j) (hs : arSz T t = some (l, sz))
    (h : 0 ≤ j ∧ j < l) : PV P n f ⟨dst, .indexAddr t x y, ty, pos, aft, gd⟩ (.pointer (some ⟨b, o + j.toNat * sz, none⟩)) := by
  unfold PV; intro w
  obtain ⟨e, i, h1, h2, h3⟩ := arSz_ok hT hs
  simp [execOp, hx, hy, Instr.indexAt, asIntOf, run_underlying h1, h, sizeOf, run_info h2, h3, Addr.add_none, Instr.sureAddr]
/-- 'arr[:j]', arr an array behind a pointer -/
theorem PV.sliceArr (hT : T.ok P) {t sz l : Nat} {x y : Operand} {b o : Nat} {j : Int} {k : IntKind} (hx : ev n f x = .pointer (some ⟨b, o, none⟩)) (hy : ev n f y = .int k j) (hs : arSz T t = some (l, sz))
    (h : 0 ≤ j ∧ j ≤ l) : PV P n f ⟨dst, .slice t x none (some y) none, ty, pos, aft, gd⟩ (.slice (some ⟨b, o, none⟩) j.toNat l) := by
  unfold PV; intro w
  obtain ⟨e, i, h1, h2, h3⟩ := arSz_ok hT hs
  simp [execOp, hx, hy, Instr.sliceAt, Instr.sliceBounds, Instr.sliceBound, asIntOf, run_underlying h1, h, sizeOf, run_info h2, Addr.add_none, Instr.sureAddr]

/-! building a struct -/
def putAt : List Value → Nat → List Value → Option (List Value)
  | cs, _, [] => some cs
  | cs, off, v :: vs => match setX cs off v with
    | some cs' => putAt cs' (off + 1) vs
    | none => none
def buildF (fs : Array Field) (T : Tab) : List Value → List (Nat × List Value) → Option (List Value)
  | cs, [] => some cs
  | cs, (i, vs) :: rest => match fs[i]? with
    | some fd => match tget T fd.type with
      | some e => bif Nat.beq vs.length e.size && Nat.blt 0 vs.length then (match putAt cs fd.offset vs with | some cs' => buildF fs T cs' rest | none => none) else none
      | none => none
    | none => none
/-- a value's cells, strictly -/
def cellsL : Value → Option (List Value)
  | .agg cs => some cs.toList
  | .bool b => some [.bool b]
  | .int k n => some [.int k n]
  | .string s => some [.string s]
  | .pointer a => some [.pointer a]
  | .slice a l c => some [.slice a l c]
  | .map r => some [.map r]
  | .func a b c => some [.func a b c]
  | .nilFunc => some [.nilFunc]
  | _ => none
theorem cellsL_eq {v : Value} {l : List Value} (h : cellsL v = some l) : v.cells = l.toArray := by
  cases v <;> cases h <;> rfl
end
end Go.Eng
