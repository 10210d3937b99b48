/- The reference's pool: rows that read as jobs or as no job. -/
import Derived.Test.YtmcajldlcomegaaW16
namespace Go.Proofs.Ytmcajldlcomegaa
open Go Go.Eng

def zrow : List Value := .int .i64 0 :: .int .i64 0 :: rzc ByteArray.empty
def RowV (i : Imm) (r : List Value) : Option JobD → Prop
  | some j => JobV i r j
  | none => r = zrow
theorem RowV.le {i i' : Imm} {r : List Value} {o : Option JobD} (h : RowV i r o) (hi : i.le i') : RowV i' r o := by
  cases o with
  | none => exact h
  | some j => exact JobV.le h hi
/-- rows, one for each worker -/
def RowsV (i : Imm) (cs : List Value) (ods : List (Option JobD)) : Prop :=
  ∃ rows : List (List Value), cs = rows.flatten ∧ rows.length = ods.length ∧ ∀ (k : Nat) (o : Option JobD), ods[k]? = some o → ∃ r, rows[k]? = some r ∧ RowV i r o
def ods (js : List (Option JobP)) (nw : Nat) : List (Option JobD) := (js.take nw).map fun o => o.map fun x => x.jd
/-- the reference's pool as a value -/
def RefV (i : Imm) (v : Value) (nw : Nat) (l : List (Option JobD)) : Prop := ∃ sv cs, v = .agg #[sv] ∧ Sl i sv 14 nw cs ∧ RowsV i cs l ∧ l.length = nw
end Go.Proofs.Ytmcajldlcomegaa
