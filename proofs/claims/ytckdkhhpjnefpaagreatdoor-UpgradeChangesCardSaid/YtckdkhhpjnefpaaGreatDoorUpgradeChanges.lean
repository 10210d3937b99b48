/- UpgradeChanges: for every list of numbers the law returns true, and its argument reads as it read before; what the listed variables hold is tied to the program's text by the given tie. No other condition. -/
import Derived.Test.YtckdkhhpjnefpaaGreatDoorQ7
import Derived.Test.YtckdkhhpjnefpaaGreatDoorRows
import Derived.Test.YtckdkhhpjnefpaaGreatDoorTie
import Derived.Test.YtckdkhhpjnefpaaGreatDoorCards
set_option linter.unusedVariables false
set_option linter.unusedSectionVars false
set_option linter.unusedSimpArgs false
namespace Go.Proofs.YtckdkhhpjnefpaaGreatDoor
open Go Go.Eng Go.ChangeShapes Go.WideShapes Go.ChangeAt Go.RowKit
namespace upgradeChanges
theorem walk (a0 : Option Addr) (len0 cap0 : Nat) (z0 : List Int) (w : World) (w0 : IsRow .i64 w a0 len0 cap0 z0) (hg : Glb (immOf w)) :
 Calls Tryz.prog 3 #[.slice a0 len0 cap0] w fun e w' => e = .returned (.bool true) ∧ Below w.heap.size w w' :=
 (FnS.kept ((Changes_t _ (immOf w) [] hg w0.sl fun i' L' _ => known_t i' L').mono fun _ _ _ _ ⟨_, h, _⟩ => h)).mono fun _ _ ⟨h1, h2⟩ => ⟨h1, below_of h2⟩
set_option maxRecDepth 100000 in
theorem lifted (os : Os) (started : os.Started) (H : Type) (enc : TypeId × Value → H) :
 ReturnsInHanded {} Tryz.checked os 3 .any (fun w args => (Rows.upgradeChangesSpec.pre enc Tryz.prog Tryz.f3 Rows.upgradeChangesRow.domain false w args ∧ laidMetH Tryz.prog Rows.upgradeChangesRow.laid w) ∧ sizedMet enc Tryz.prog Tryz.f3 (OpenSpec.ofChange Rows.upgradeChangesSpec) false w args)
  (Rows.upgradeChangesSpec.post enc Tryz.prog Tryz.f3 false true false false) := by
 refine handed_and_shaped (C := Tryz.checked) (X := fun w _ => laidMetH Tryz.prog Rows.upgradeChangesRow.laid w) (fun _ _ _ hh h => h.of_heap hh) own started (by kernel_rfl) Tryz.func3
  (ChangeSpec.witness_shaped (enc := enc) (C := Tryz.checked) (os := os) (X := fun w _ => laidMetH Tryz.prog Rows.upgradeChangesRow.laid w) false (World.laidAll Tryz.prog os Rows.upgradeChangesRow.laid) #[.slice none 0 0] 8 (World.laidAll_os _ _ _)
   (laid_shaped os _) (by kernel_rfl) (by kernel_rfl) (by kernel_rfl) (laid_witness os _)) ?_
 intro W base args ds gs before hval0 hW hL hsh
 have hval : ∀ (j : Nat) t v, Tryz.f3.params[j]? = some t → args[j]? = some v → Value.okWide Tryz.prog W .any base t v := hval0
 have hW' := hW
 obtain ⟨p, q, hA0, hV, rfl, hfz, hnd⟩ := hW
 have hA : DataW.TrodAll enc Tryz.prog W 0 (fun _ => true) true Tryz.f3.params.toList args.toList ds p := hA0
 rw [Tryz.params3] at hA hval
 obtain ⟨v0, vs0, d0, ds0, p0, q0, hargs, rfl, rfl, h0, r0⟩ := trodAll_cons hA
 obtain ⟨rfl, rfl, rfl⟩ := trodAll_nil r0
 obtain rfl : args = #[v0] := by cases args; simp_all
 obtain ⟨rfl, rfl⟩ := trodVars_none hV
 obtain ⟨a0, len0, cap0, rfl⟩ := okWide_slice Tryz.underlying22 (hval 0 22 v0 rfl rfl)
 have k0 := h0
 have lt0 : ∀ x ∈ p0, x.block < W.heap.size := by obtain ⟨m, hm⟩ := k0; exact DataW.trod_lt m _ _ _ hm
 obtain ⟨z0, w0⟩ : ∃ zs, IsRow .i64 W a0 len0 cap0 zs := by
  obtain ⟨fuel, hf⟩ := h0
  rcases open_ints Tryz.underlying22 Tryz.underlying3 (by kernel_rfl) hf with ⟨hcs, _⟩ | ⟨x, l, c, zs, hcs, _, hl, hm, hz, _, hcell, hwz⟩
  · simp [Value.cells] at hcs
    obtain ⟨rfl, rfl, rfl⟩ := hcs
    exact ⟨[], .inl ⟨rfl, rfl, rfl, rfl⟩⟩
  · simp [Value.cells] at hcs
    obtain ⟨rfl, rfl, rfl⟩ := hcs
    exact ⟨zs, .inr ⟨_, rfl, hl, hm, by simpa using hz, hcell, hwz⟩⟩
 clear hA0 hval0
 refine (walk a0 len0 cap0 z0 W w0 (glb_of hL hsh)).mono fun e W' ⟨he, bel⟩ => ?_
 subst he
 exact ⟨_, rfl, _, _, _, [], _, [], hW', trodAll_mk1 (shut_bool Tryz.underlying4 _), (trodAll_cons_mk (Below.trod laidOut (by kernel_rfl) (of_decide_eq_true (by kernel_rfl)) k0 bel lt0) trodAll_mk0), rfl, bel.frame _, fun h => by cases h⟩
theorem named : Tryz.pinned.checked.prog.funcNamed Rows.upgradeChangesRow.func = some 3 := by kernel_rfl
theorem inst : Tryz.f3.isInstance Tryz.pinned.checked.prog Rows.upgradeChangesRow.origin Rows.upgradeChangesRow.targs := of_decide_eq_true (by kernel_rfl)
theorem wrap : Tryz.f3.isWrapper Tryz.pinned.checked.prog Rows.upgradeChangesRow.wrapper Rows.upgradeChangesRow.mainSum := by unfold Func.isWrapper; first | (rw [if_pos (by decide +kernel)]; kernel_rfl) | (rw [if_neg (by decide +kernel)]; exact ⟨rfl, rfl⟩)
theorem run (os : Os) (started : os.Started) (H : Type) (enc : TypeId × Value → H) (_ : ∀ a b, enc a = enc b → a = b) :
 ReturnsInHanded Rows.upgradeChangesRow.assume Tryz.pinned.checked os 3 .any (Rows.upgradeChangesRow.pre enc Tryz.pinned.checked.prog Tryz.f3 (OpenSpec.ofChange Rows.upgradeChangesSpec)) (Rows.upgradeChangesSpec.post enc Tryz.pinned.checked.prog Tryz.f3 Rows.upgradeChangesRow.apart Rows.upgradeChangesRow.fresh Rows.upgradeChangesRow.handsOn Rows.upgradeChangesRow.again) := by
 rw [pre_laid (l := Rows.upgradeChangesRow.laid) rfl (by intro h; cases h)]
 exact lifted os started H enc
theorem over : Rows.upgradeChangesRow.holds Tryz.pinned (OpenSpec.ofChange Rows.upgradeChangesSpec) :=
 OpenClaim.holds_of_wide 3 Tryz.f3 rfl rfl rfl rfl rfl rfl rfl ⟨rfl, rfl, rfl, rfl, rfl⟩ rfl rfl rfl rfl rfl named Tryz.func3 closed inst wrap run
theorem wf : Rows.upgradeChangesRow.wfByText (OpenSpec.ofChange Rows.upgradeChangesSpec) = true := by kernel_rfl
theorem mainIs : Tryz.pinned.checked.prog.mainIs = some (true, "ffeacdc8a028b4685c04d313d1b4d90afe89280dc0fdba55e4612a20d008e3b3".toList) := by kernel_rfl
theorem looks (f : FuncId) (fn : Func) (hf : Tryz.pinned.checked.prog.funcNamed Rows.upgradeChangesRow.func = some f) (hfn : Tryz.pinned.checked.prog.funcs[f]? = some fn) : true = Tryz.pinned.checked.prog.looks [] ∧ ∀ (j : Nat) t, fn.params[j]? = some t → Tryz.pinned.checked.prog.wantsStandIn t = false := by
 obtain rfl : f = 3 := Option.some.inj ((show Tryz.prog.funcNamed "coldplug/coldpluglaw43.UpgradeChanges" = some 3 by kernel_rfl).symm.trans hf) |>.symm
 obtain rfl : fn = Tryz.f3 := (Option.some.inj (Tryz.func3.symm.trans hfn)).symm
 exact ⟨by kernel_rfl, fun j t ht => by
  rw [Tryz.params3] at ht
  have hm : t ∈ [22] := by simpa using Array.mem_of_getElem? ht
  have hall : ([22].all fun u => !Tryz.prog.wantsStandIn u) = true := by kernel_rfl
  exact (show Tryz.prog.wantsStandIn t = false by simpa using List.all_eq_true.1 hall t hm)⟩
theorem goes : false = Rows.upgradeChangesRow.goesBy Tryz.pinned.checked.prog := by kernel_rfl
theorem proved : Rows.UpgradeChangesCardSaid :=
 Claim7.holds_tied_plain_at .later [] [.data, .data, .data, .data, .sentinel, .sentinel, .pinned, .pinned] true (true, "ffeacdc8a028b4685c04d313d1b4d90afe89280dc0fdba55e4612a20d008e3b3") true over (fun _ h => by cases h) wf (fun _ h => by cases h) upgradeChanges_row_tie rfl ⟨rfl, rfl⟩ mainIs rfl looks goes
#print axioms proved
end upgradeChanges
end Go.Proofs.YtckdkhhpjnefpaaGreatDoor
