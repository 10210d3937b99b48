/- RescanTurns: for every input the law returns true, and its arguments read as before. No condition. (The row's frame is the kit's shell, proof-skeleton.mjs.) -/
import Derived.Test.YtmcajldlcomegaaRows
import Derived.Test.YtmcajldlcomegaaW65
import Derived.WalkKit
import Derived.ProofKit
import Derived.OpenShut
import Derived.ShutString
import Derived.ChangeOld
import Derived.Below
namespace Go.Proofs.Ytmcajldlcomegaa.rescanTurns
open Go.ChangeShapes Go.WideShapes Go.ChangeAt Go.RowKit
open Go.ChangeMaps (open_string shut_string)
set_option linter.unusedVariables false

theorem own : ownKnob Try.prog.godebug = none := by kernel_rfl
theorem laidOut : laidOutB Try.prog = true := by kernel_rfl

/-- WHAT THE WALK IS TOLD OF A SLICE OF INTEGERS THAT CAME IN: it is nil; or it leads to a row of 'cap' cells, the numbers 'zs' (the first 'len' are its elements, the rest its spare room), each fitting its kind. -/
def IsRow (k : IntKind) (w : World) (a : Option Addr) (len cap : Nat) (zs : List Int) : Prop :=
  (a = none ∧ len = 0 ∧ cap = 0 ∧ zs = []) ∨
  ∃ x, a = some x ∧ len ≤ cap ∧ cap ≤ maxLen ∧ zs.length = cap ∧ (∀ i, i < zs.length → w.cell? (x.add i) = some (.int k (zs.getD i 0))) ∧ ∀ n ∈ zs, (Lit.int k n).wf = true

theorem IsRow.sl {w : World} {a : Option Addr} {len cap : Nat} {zs : List Int} (h : IsRow .i64 w a len cap zs) : IntSl (Go.Eng.immOf w) (.slice a len cap) := by
  rcases h with ⟨rfl, rfl, rfl, _⟩ | ⟨x, rfl, h1, h2, h3, h4, _⟩
  · exact ⟨none, 0, 0, rfl, by omega, .inl rfl⟩
  · refine ⟨some x, len, cap, rfl, by simp [maxLen] at h2; omega, ?_⟩
    rcases Nat.eq_zero_or_pos len with h0 | h0
    · exact .inl h0
    · refine .inr ?_
      obtain ⟨b, o, sp⟩ := x
      have g0 := h4 0 (by omega)
      cases sp with
      | some y => exfalso; revert g0; simp only [World.cell?, Addr.add]; split <;> simp
      | none =>
        rw [Go.Eng.Addr.add_none] at g0
        simp only [World.cell?] at g0
        split at g0
        · rename_i c t fz hb
          refine ⟨b, o, c.toList, t, fz, rfl, by rw [Array.toArray_toList]; exact hb, fun j hj => ?_⟩
          have g := h4 j (by omega)
          rw [Go.Eng.Addr.add_none] at g
          simp only [World.cell?, hb] at g
          exact ⟨_, by simpa using g⟩
        · cases g0
theorem below_of {w w' : World} (h : Go.Eng.Kept w w') : Below w.heap.size w w' := by
  refine ⟨h.os, h.tape, h.output, Nat.le_of_not_lt fun hlt => ?_, h.block⟩
  have h5 := h.block _ hlt
  rw [Array.getElem?_eq_getElem hlt, Array.getElem?_eq_none (Nat.le_refl _)] at h5
  cases h5
theorem walk (a0 : Option Addr) (len0 cap0 : Nat) (z0 : List Int) (wc1 : List Value) (W1 : WorldD) (wc2 : List Value) (W2 : WorldD) (w : World) (w0 : IsRow .i64 w a0 len0 cap0 z0) (w1 : WorldV (Go.Eng.immOf w) wc1 W1) (wo1 : W1.ok) (wl1 : W1.recs.length ≤ 10000000000000) (wm1 : W1.mods.length ≤ 10000000000000) (w2 : WorldV (Go.Eng.immOf w) wc2 W2) (wo2 : W2.ok) (wl2 : W2.recs.length ≤ 10000000000000) (wm2 : W2.mods.length ≤ 10000000000000) :
    Calls Try.prog 13 #[.slice a0 len0 cap0, .agg (List.toArray wc1), .agg (List.toArray wc2)] w fun e w' => e = .returned (.bool true) ∧ Below w.heap.size w w' :=
  (Go.Eng.FnS.kept (RTurns_s _ wc1 wc2 W1 W2 (Go.Eng.immOf w) [] w0.sl w1 wo1 wl1 wm1 w2 wo2 wl2 wm2)).mono fun _ _ ⟨h1, h2⟩ => ⟨h1, below_of h2⟩

set_option maxRecDepth 100000 in
theorem lifted (os : Os) (started : os.Started) (H : Type) (enc : TypeId × Value → H) :
    ReturnsInHanded {} Try.checked os 13 .any (Rows.rescanTurnsSpec.pre6 enc Try.prog Try.f13 Rows.rescanTurnsRow.domain false) (Rows.rescanTurnsSpec.post enc Try.prog Try.f13 false true false false) := by
  refine returnsInHanded_of_change_sized (C := Try.checked) own started (by kernel_rfl) Try.func13
    (ChangeSpec.witness6 (enc := enc) (C := Try.checked) false ⟨#[], #[.slice none 0 0, .agg #[.slice none 0 0, .slice none 0 0, .slice none 0 0, .slice none 0 0, .slice none 0 0], .agg #[.slice none 0 0, .slice none 0 0, .slice none 0 0, .slice none 0 0, .slice none 0 0]], []⟩ 8 (by kernel_rfl) (by kernel_rfl) (by kernel_rfl) (by kernel_rfl)) ?_
  intro W base args ds gs before hval0 hW hcnd hsz0 _
  have hval : ∀ (j : Nat) t v, Try.f13.params[j]? = some t → args[j]? = some v → Value.okWide Try.prog W .any base t v := hval0
  have hsz : (DataW.weightsEach Try.prog (Try.f13.params.toList ++ Rows.rescanTurnsSpec.plain.varTypes Try.prog) (ds ++ gs)).all (· ≤ reachBytes) = true := hsz0
  have hW' := hW
  obtain ⟨p, q, hA0, hV, rfl, hfz, hnd⟩ := hW
  have hA : DataW.TrodAll enc Try.prog W 0 (fun _ => true) true Try.f13.params.toList args.toList ds p := hA0
  rw [Try.params13] at hA hval hsz
  obtain ⟨v0, vs0, d0, ds0, p0, q0, hargs, rfl, rfl, h0, r0⟩ := trodAll_cons hA
  obtain ⟨v1, vs1, d1, ds1, p1, q1, rfl, rfl, rfl, h1, r1⟩ := trodAll_cons r0
  obtain ⟨v2, vs2, d2, ds2, p2, q2, rfl, rfl, rfl, h2, r2⟩ := trodAll_cons r1
  obtain ⟨rfl, rfl, rfl⟩ := trodAll_nil r2
  obtain rfl : args = #[v0, v1, v2] := by cases args; simp_all
  obtain ⟨rfl, rfl⟩ := trodVars_none hV
  have lt0 : ∀ x ∈ p0, x.block < W.heap.size := by obtain ⟨m, hm⟩ := h0; exact DataW.trod_lt m _ _ _ hm
  have k0 := h0
  obtain ⟨a0, len0, cap0, rfl⟩ := okWide_slice Try.underlying22 (hval 0 22 v0 rfl rfl)
  obtain ⟨z0, w0⟩ : ∃ zs, IsRow .i64 W a0 len0 cap0 zs := by
    obtain ⟨fuel, hf⟩ := h0
    rcases open_ints Try.underlying22 Try.underlying3 (by kernel_rfl) hf with ⟨hcs, _⟩ | ⟨x, l, c, zs, hcs, _, hl, hm, hz, _, hcell, hwz⟩
    · simp [Value.cells] at hcs
      obtain ⟨rfl, rfl, rfl⟩ := hcs
      exact ⟨[], .inl ⟨rfl, rfl, rfl, rfl⟩⟩
    · simp [Value.cells] at hcs
      obtain ⟨rfl, rfl, rfl⟩ := hcs
      exact ⟨zs, .inr ⟨_, rfl, hl, hm, by simpa using hz, hcell, hwz⟩⟩
  have lt1 : ∀ x ∈ p1, x.block < W.heap.size := by obtain ⟨m, hm⟩ := h1; exact DataW.trod_lt m _ _ _ hm
  have z1 : ∀ m ∈ d1.weights Try.prog 77, m ≤ reachBytes := fun m hm => by simpa using List.all_eq_true.1 hsz m (DataW.weights_mem_each (j := 1) (t := 77) rfl rfl m hm)
  obtain ⟨wc1, W1, rfl, w1, wo1, wl1, wm1⟩ := open_world (hval 1 77 v1 rfl rfl) h1 z1
  have lt2 : ∀ x ∈ p2, x.block < W.heap.size := by obtain ⟨m, hm⟩ := h2; exact DataW.trod_lt m _ _ _ hm
  have z2 : ∀ m ∈ d2.weights Try.prog 77, m ≤ reachBytes := fun m hm => by simpa using List.all_eq_true.1 hsz m (DataW.weights_mem_each (j := 2) (t := 77) rfl rfl m hm)
  obtain ⟨wc2, W2, rfl, w2, wo2, wl2, wm2⟩ := open_world (hval 2 77 v2 rfl rfl) h2 z2
  clear hA0 hval0 hsz0
  refine (walk a0 len0 cap0 z0 wc1 W1 wc2 W2 W w0 w1 wo1 wl1 wm1 w2 wo2 wl2 wm2).mono fun e W' ⟨he, bel⟩ => ?_
  subst he
  exact ⟨_, rfl, _, _, _, [], _, [], hW', trodAll_mk1 (shut_bool Try.underlying4 _), (trodAll_cons_mk (Below.trod laidOut (by kernel_rfl) (of_decide_eq_true (by kernel_rfl)) k0 bel lt0) (trodAll_cons_mk (Below.trod laidOut (by kernel_rfl) (of_decide_eq_true (by kernel_rfl)) h1 bel lt1) (trodAll_cons_mk (Below.trod laidOut (by kernel_rfl) (of_decide_eq_true (by kernel_rfl)) h2 bel lt2) trodAll_mk0))), rfl, bel.frame _, fun h => by cases h⟩

theorem over : Rows.rescanTurnsRow.holds Try.pinned (OpenSpec.ofChange Rows.rescanTurnsSpec) :=
  OpenClaim.holds_of_wide 13 Try.f13 rfl rfl rfl rfl rfl rfl rfl ⟨rfl, rfl, rfl, rfl, rfl⟩ rfl rfl rfl rfl rfl (by kernel_rfl) Try.func13 (by kernel_rfl)
    (of_decide_eq_true (by kernel_rfl)) (by unfold Func.isWrapper; first | (rw [if_pos (by decide +kernel)]; kernel_rfl) | (rw [if_neg (by decide +kernel)]; exact ⟨rfl, rfl⟩))
    (fun os started H enc _ => lifted os started H enc)

/-- ████ THE STATEMENT ████ -/
theorem proved : Rows.RescanTurnsSaid := over
#print axioms proved
end Go.Proofs.Ytmcajldlcomegaa.rescanTurns
