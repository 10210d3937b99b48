/- RescanCompares: for every input the law returns true, and its arguments read as before. No condition. (The row's frame is the kit's shell, proof-skeleton.mjs.) -/
import Derived.Test.YtmcajldlcomegaaRows
import Derived.Test.YtmcajldlcomegaaW62
import Derived.WalkKit
import Derived.ProofKit
import Derived.OpenShut
import Derived.ShutString
import Derived.ChangeOld
import Derived.Below
namespace Go.Proofs.Ytmcajldlcomegaa.rescanCompares
open Go.ChangeShapes Go.WideShapes Go.ChangeAt Go.RowKit
open Go.ChangeMaps (open_string shut_string)
set_option linter.unusedVariables false

theorem own : ownKnob Try.prog.godebug = none := by kernel_rfl
theorem laidOut : laidOutB Try.prog = true := by kernel_rfl

theorem below_of {w w' : World} (h : Go.Eng.Kept w w') : Below w.heap.size w w' := by
  refine ⟨h.os, h.tape, h.output, Nat.le_of_not_lt fun hlt => ?_, h.block⟩
  have h5 := h.block _ hlt
  rw [Array.getElem?_eq_getElem hlt, Array.getElem?_eq_none (Nat.le_refl _)] at h5
  cases h5
theorem walk (wc0 : List Value) (W0 : WorldD) (wc1 : List Value) (W1 : WorldD) (w : World) (w0 : WorldV (Go.Eng.immOf w) wc0 W0) (wo0 : W0.ok) (wl0 : W0.recs.length ≤ 10000000000000) (wm0 : W0.mods.length ≤ 10000000000000) (w1 : WorldV (Go.Eng.immOf w) wc1 W1) (wo1 : W1.ok) (wl1 : W1.recs.length ≤ 10000000000000) (wm1 : W1.mods.length ≤ 10000000000000) :
    Calls Try.prog 12 #[.agg (List.toArray wc0), .agg (List.toArray wc1)] w fun e w' => e = .returned (.bool true) ∧ Below w.heap.size w w' :=
  (Go.Eng.FnS.kept (RCompares_s wc0 wc1 W0 W1 (Go.Eng.immOf w) [] w0 wo0 wl0 wm0 w1 wo1 wl1 wm1)).mono fun _ _ ⟨h1, h2⟩ => ⟨h1, below_of h2⟩

set_option maxRecDepth 100000 in
theorem lifted (os : Os) (started : os.Started) (H : Type) (enc : TypeId × Value → H) :
    ReturnsInHanded {} Try.checked os 12 .any (Rows.rescanComparesSpec.pre6 enc Try.prog Try.f12 Rows.rescanComparesRow.domain false) (Rows.rescanComparesSpec.post enc Try.prog Try.f12 false true false false) := by
  refine returnsInHanded_of_change_sized (C := Try.checked) own started (by kernel_rfl) Try.func12
    (ChangeSpec.witness6 (enc := enc) (C := Try.checked) false ⟨#[], #[.agg #[.slice none 0 0, .slice none 0 0, .slice none 0 0, .slice none 0 0, .slice none 0 0], .agg #[.slice none 0 0, .slice none 0 0, .slice none 0 0, .slice none 0 0, .slice none 0 0]], []⟩ 8 (by kernel_rfl) (by kernel_rfl) (by kernel_rfl) (by kernel_rfl)) ?_
  intro W base args ds gs before hval0 hW hcnd hsz0 _
  have hval : ∀ (j : Nat) t v, Try.f12.params[j]? = some t → args[j]? = some v → Value.okWide Try.prog W .any base t v := hval0
  have hsz : (DataW.weightsEach Try.prog (Try.f12.params.toList ++ Rows.rescanComparesSpec.plain.varTypes Try.prog) (ds ++ gs)).all (· ≤ reachBytes) = true := hsz0
  have hW' := hW
  obtain ⟨p, q, hA0, hV, rfl, hfz, hnd⟩ := hW
  have hA : DataW.TrodAll enc Try.prog W 0 (fun _ => true) true Try.f12.params.toList args.toList ds p := hA0
  rw [Try.params12] at hA hval hsz
  obtain ⟨v0, vs0, d0, ds0, p0, q0, hargs, rfl, rfl, h0, r0⟩ := trodAll_cons hA
  obtain ⟨v1, vs1, d1, ds1, p1, q1, rfl, rfl, rfl, h1, r1⟩ := trodAll_cons r0
  obtain ⟨rfl, rfl, rfl⟩ := trodAll_nil r1
  obtain rfl : args = #[v0, v1] := by cases args; simp_all
  obtain ⟨rfl, rfl⟩ := trodVars_none hV
  have lt0 : ∀ x ∈ p0, x.block < W.heap.size := by obtain ⟨m, hm⟩ := h0; exact DataW.trod_lt m _ _ _ hm
  have z0 : ∀ m ∈ d0.weights Try.prog 77, m ≤ reachBytes := fun m hm => by simpa using List.all_eq_true.1 hsz m (DataW.weights_mem_each (j := 0) (t := 77) rfl rfl m hm)
  obtain ⟨wc0, W0, rfl, w0, wo0, wl0, wm0⟩ := open_world (hval 0 77 v0 rfl rfl) h0 z0
  have lt1 : ∀ x ∈ p1, x.block < W.heap.size := by obtain ⟨m, hm⟩ := h1; exact DataW.trod_lt m _ _ _ hm
  have z1 : ∀ m ∈ d1.weights Try.prog 77, m ≤ reachBytes := fun m hm => by simpa using List.all_eq_true.1 hsz m (DataW.weights_mem_each (j := 1) (t := 77) rfl rfl m hm)
  obtain ⟨wc1, W1, rfl, w1, wo1, wl1, wm1⟩ := open_world (hval 1 77 v1 rfl rfl) h1 z1
  clear hA0 hval0 hsz0
  refine (walk wc0 W0 wc1 W1 W w0 wo0 wl0 wm0 w1 wo1 wl1 wm1).mono fun e W' ⟨he, bel⟩ => ?_
  subst he
  exact ⟨_, rfl, _, _, _, [], _, [], hW', trodAll_mk1 (shut_bool Try.underlying4 _), (trodAll_cons_mk (Below.trod laidOut (by kernel_rfl) (of_decide_eq_true (by kernel_rfl)) h0 bel lt0) (trodAll_cons_mk (Below.trod laidOut (by kernel_rfl) (of_decide_eq_true (by kernel_rfl)) h1 bel lt1) trodAll_mk0)), rfl, bel.frame _, fun h => by cases h⟩

theorem over : Rows.rescanComparesRow.holds Try.pinned (OpenSpec.ofChange Rows.rescanComparesSpec) :=
  OpenClaim.holds_of_wide 12 Try.f12 rfl rfl rfl rfl rfl rfl rfl ⟨rfl, rfl, rfl, rfl, rfl⟩ rfl rfl rfl rfl rfl (by kernel_rfl) Try.func12 (by kernel_rfl)
    (of_decide_eq_true (by kernel_rfl)) (by unfold Func.isWrapper; first | (rw [if_pos (by decide +kernel)]; kernel_rfl) | (rw [if_neg (by decide +kernel)]; exact ⟨rfl, rfl⟩))
    (fun os started H enc _ => lifted os started H enc)

/-- ████ THE STATEMENT ████ -/
theorem proved : Rows.RescanComparesSaid := over
#print axioms proved
end Go.Proofs.Ytmcajldlcomegaa.rescanCompares
