/- The proof engine, part 12: an element of an array as a value, a byte of a string. No condition. -/
import Derived.Test.YtmcajldlcomegaaEng11
namespace Go.Eng
open Go
def arEl (T : Tab) (t : Nat) : Option Nat :=
  match tget T t with
  | some ⟨.array l e, _, _, _⟩ => match tget T e with
    | some x => bif Nat.beq x.size 1 && !isAggD x.desc then some l else none
    | none => none
  | _ => none
section
variable {P : Program} {n : Nat} {f : Fr} {dst : Option Nat} {ty : TypeId} {pos : String} {aft : Array Edge} {gd : Option (Nat × Bool)} {v : Value} {T : Tab}
theorem PV.indexA (hT : T.ok P) {t l : Nat} {x y : Operand} {cs : List Value} {j : Int} {k : IntKind} (hx : ev n f x = .agg cs.toArray) (hy : ev n f y = .int k j) (hs : arEl T t = some l) (hj : 0 ≤ j ∧ j < l) (hv : cs[j.toNat]? = some v) :
    PV P n f ⟨dst, .index t x y, ty, pos, aft, gd⟩ v := by
  unfold PV; intro w
  unfold arEl at hs
  split at hs
  · rename_i l' e _ _ _ he
    split at hs
    · rename_i x' hx'
      cases hb : (Nat.beq x'.size 1 && !isAggD x'.desc) with
      | false => rw [hb] at hs; cases hs
      | true =>
        rw [hb] at hs
        cases hs
        simp only [Bool.and_eq_true, Bool.not_eq_true'] at hb
        have h1 := Nat.eq_of_beq_eq_true hb.1
        have hu := (tget_ok hT he).und
        obtain ⟨h2, _, ti, z, hi, hsz, _⟩ := tget_ok hT hx'
        simp [execOp, hx, hy, Instr.index, asIntOf, run_underlying hu, hj, sizeOf, run_info hi, hsz, h1, part, run_isAgg h2, hb.2, hv]
    · cases hs
  · cases hs
theorem PV.indexS (hT : T.ok P) {t : Nat} {x y : Operand} {s : ByteArray} {j : Int} {k : IntKind} {b : UInt8} (hx : ev n f x = .string s) (hy : ev n f y = .int k j) (ht : tIs T isStrD t = true) (hj : 0 ≤ j) (hv : s[j.toNat]? = some b) :
    PV P n f ⟨dst, .index t x y, ty, pos, aft, gd⟩ (.int .u8 b.toNat) := by
  unfold PV; intro w
  have hu := tIs_str hT ht
  simp [execOp, hx, hy, Instr.index, asIntOf, run_underlying hu, hj, hv]
end
end Go.Eng
namespace Go.Eng
open Go
/-- a row that was built is let be, inside a region -/
theorem RS.freezeSl {P : Program} {all : List Oper} {m : Nat} {r : List Oper} {f : Fr} {i : Imm} {L L0 : SH} {K : Fr → Imm → SH → Prop} {e : TypeId} {v : Value} {sz n : Nat} {xs : List Value} {O : SH} (hO : SlO e v sz n xs O) (hL : L.Perm (O ++ L0))
    (h : ∀ i', i.le i' → Sl i' v sz n xs → RS P all m r f i' L0 K) : RS P all m r f i L K :=
  RS.state fun _ hw => let ⟨i', h1, h2, h3⟩ := hO.freeze (hw.perm hL); ⟨i', L0, h1, h2, h i' h1 h3⟩
end Go.Eng
