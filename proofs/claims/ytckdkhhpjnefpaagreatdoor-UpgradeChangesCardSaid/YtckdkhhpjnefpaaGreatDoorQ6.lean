/- What UpgradeChanges leans on. No condition. -/
import Derived.Test.YtckdkhhpjnefpaaGreatDoorQ5
import Derived.Test.YtckdkhhpjnefpaaGreatDoorRows
import Derived.Shelf.Strings.OnBuilder
import Derived.Shelf.LaysM
import Derived.Ground.GgsProg
import Derived.Shelf.GgSortFunc.Tiny
import Derived.Ground.Names2Prog
import Derived.Ground.SlgnProg
import Derived.Test.YtckdkhhpjnefpaaGreatDoorProg
import Derived.ProofKit
import Derived.WalkKit
import Derived.OpenShut
import Derived.ChangeOld
import Derived.Below
import Derived.LaidMore
import Derived.Lay
import Derived.HandedShaped
import Derived.Stop.Joined
import Derived.Shelf.Vars
import Derived.Lib.LaidU8
import Derived.Lib.LaidTab
import Derived.JoinedOf
set_option linter.unusedVariables false
set_option linter.unusedSectionVars false
set_option linter.unusedSimpArgs false
namespace Go.Eng
open Go Go.ChangeShapes Go.WideShapes Go.ChangeAt Go.RowKit
def immOf (w : World) : Imm := ⟨fun b => w.heap[b]?, w.os, w.tape, w.output⟩
theorem St.start (w : World) : St (immOf w) [] w := ⟨rfl, rfl, rfl, fun _ _ h => h, .nil, fun _ h => (by cases h), fun _ h => (by cases h)⟩
structure Kept (w w' : World) : Prop where
 os : w'.os = w.os
 tape : w'.tape = w.tape
 output : w'.output = w.output
 block : ∀ k, k < w.heap.size → w'.heap[k]? = w.heap[k]?
theorem Kept.of {w w' : World} {i : Imm} {L : SH} (hi : (immOf w).le i) (hs : St i L w') : Kept w w' :=
 ⟨hs.os.trans hi.os, hs.tape.trans hi.tape, hs.output.trans hi.output, fun k hk => by
  have h : w.heap[k]? = some w.heap[k] := Array.getElem?_eq_getElem hk
  rw [h]
  exact hs.imm k _ (hi.blk k _ h)⟩
theorem FnS.kept {P : Program} {g : FuncId} {args : List Value} {w : World} {v : Value} (h : FnS P g args (immOf w) [] fun u _ _ => u = v) : Calls P g args.toArray w fun e w' => e = .returned v ∧ Kept w w' :=
 (h w (St.start w)).mono fun _ _ ⟨_, _, _, he, hi, hs, hv⟩ => ⟨by rw [he, hv], Kept.of hi hs⟩
section
variable {H : Type} {enc : TypeId × Value → H} {P : Program}
end
end Go.Eng
namespace Go.Proofs.YtckdkhhpjnefpaaGreatDoor
open Go Go.Eng Go.ChangeShapes Go.WideShapes Go.ChangeAt Go.RowKit
theorem own : ownKnob Tryz.prog.godebug = none := by kernel_rfl
theorem laidOut : laidOutB Tryz.prog = true := by kernel_rfl
noncomputable abbrev laid3 : List (String × DataW Unit) := Rows.upgradeChangesRow.laid
theorem met_plain {W : World} (h : laidMetH Tryz.prog laid3 W) : laidMet Tryz.prog laid3 W := by
 rw [MakeChecks.laidMetH_plain _ _ _ (by kernel_rfl)] at h
 exact h
theorem pow_tab {W : World} (h : laidMetH Tryz.prog laid3 W) : Lib.TabIs Tryz.prog W "internal/strconv.uint64pow10" .u64 Lib.pow10Tab := by
 have hm : ("internal/strconv.uint64pow10", (Rows.laid_internal_strconv_uint64pow10 : DataW Unit)) ∈ laid3 := by
  show _ ∈ [_, _, _, _, _, _, _, _]
  simp
 obtain ⟨g, t, cs, fuel, p, h1, h2, h3, h4⟩ := Lib.laidMet.reads (met_plain h) hm
 obtain rfl := Option.some.inj ((show Tryz.prog.globalNamed "internal/strconv.uint64pow10" = some 4 by kernel_rfl).symm.trans h1)
 obtain rfl := Option.some.inj ((show (Tryz.prog.globals[4]?).map (·.type) = some 404 by kernel_rfl).symm.trans h2)
 have e : (Rows.laid_internal_strconv_uint64pow10 : DataW Unit) = Lib.tabData .u64 Lib.pow10Tab := by kernel_rfl
 rw [e] at h4
 have c1 : Tryz.prog.cellsOf 264 = 1 := by kernel_rfl
 have c2 : Tryz.prog.cellsOf 404 = 20 := by kernel_rfl
 have h5 := Lib.cells_of_tab Tryz.underlying404 Tryz.underlying264 c1 c2 h4
 unfold Lib.TabIs
 rw [h3, ← h5]
theorem globals_pos : 0 < Tryz.prog.globals.size := by
 have : Tryz.prog.globals.size = 9 := by kernel_rfl
 omega
theorem shaped_max {W : World} (h : W.ShapedOpen Tryz.prog) : ∃ m, W.cell? ⟨0, 0, none⟩ = some (.int .i64 m) :=
 cell_of_shapedOpen_int (g := 0) (t := 3) (zero := #[.int .i64 0]) h globals_pos (by kernel_rfl) rfl (by kernel_rfl) (by kernel_rfl) Tryz.underlying3
theorem glb_of {W : World} (h : laidMetH Tryz.prog laid3 W) (hs : W.ShapedOpen Tryz.prog) : Glb (immOf W) := by
 refine ⟨?_, fun L w hw => ?_⟩
 · obtain ⟨m, hm⟩ := shaped_max hs
   simp only [World.cell?] at hm
   split at hm
   · rename_i c t fz hb
     exact ⟨m, c.toList, t, fz, by rw [Array.toArray_toList]; exact hb, by simpa using hm⟩
   · cases hm
 · have h0 := pow_tab h
   unfold Lib.TabIs at h0 ⊢
   unfold World.var? at h0 ⊢
   have hg : Tryz.prog.globalNamed "internal/strconv.uint64pow10" = some 4 := by kernel_rfl
   rw [hg] at h0 ⊢
   simp only [Option.bind_some] at h0 ⊢
   split at h0
   · rename_i cs t fz hb
     rw [hw.imm 4 _ (show (immOf W).blk 4 = _ from hb)]
     exact h0
   · cases h0
theorem laid_witness (os : Os) (args : Array Value) : laidMetH Tryz.prog laid3 ((World.laidAll Tryz.prog os laid3).forCall (fun _ _ => 0) ⟨#[], args, []⟩).memory := by
 rw [MakeChecks.laidMetH_plain _ _ _ (by kernel_rfl)]
 exact laidMet_laidAll _ (by kernel_rfl) (by kernel_rfl)
theorem laid_shaped (os : Os) (args : Array Value) : ((World.laidAll Tryz.prog os laid3).forCall (fun _ _ => 0) ⟨#[], args, []⟩).Shaped Tryz.prog := World.shaped_of_ZipB (by kernel_rfl) (by kernel_rfl)
theorem pre_laid {H : Type} {enc : TypeId × Value → H} {P : Program} {f : Func} {s : ChangeSpec} {c : OpenClaim} {l : List (String × DataW Unit)} (hl : c.laid = l) (hne : l ≠ []) : c.pre enc P f (OpenSpec.ofChange s) = fun w args => (s.pre enc P f c.domain c.apart w args ∧ laidMetH P l w) ∧ sizedMet enc P f (OpenSpec.ofChange s) c.apart w args := by
 unfold OpenClaim.pre OpenClaim.preLaid
 subst hl
 cases h : c.laid with
 | nil => exact absurd h hne
 | cons x r => rfl
theorem handed_and_shaped {H : Type} {enc : TypeId × Value → H} {a : Assume} {C : Checked} {os : Os} {f : FuncId} {fn : Func} {s : ChangeSpec} {conds : List PathCond} {apart fresh handsOn again : Bool} {X : World → Array Value → Prop}
 (hX : ∀ (w w' : World) (args : Array Value), w.heap = w'.heap → X w args → X w' args)
 (own : ownKnob C.prog.godebug = none) (started : os.Started) (noInit : C.prog.inits.idxOf? f = none) (hfn : C.prog.funcs[f]? = some fn)
 (witness : ∃ (w : World) (tape : Tape) (i : Input), w.os = os ∧ (w.forCall tape i).Shaped C.prog ∧ i.vars = [] ∧ Input.okWide C.prog (w.forCall tape i) .any w.heap.size f i ∧
  ((s.pre enc C.prog fn conds apart (w.forCall tape i).memory i.args ∧ X (w.forCall tape i).memory i.args) ∧ sizedMet enc C.prog fn (OpenSpec.ofChange s) apart (w.forCall tape i).memory i.args) ∧ a.holds C.prog (lone (Frame.enter C.prog f i.args .normal) [] (w.forCall tape i)))
 (contract : ∀ (W : World) (base : Nat) (args : Array Value) (ds gs : List (DataW H)) (before : List MemPlace),
  (∀ (j : Nat) t v, fn.params[j]? = some t → args[j]? = some v → Value.okWide C.prog W .any base t v) →
  DataW.Whole enc C.prog fn.params.toList s.vars apart W args.toList ds gs before → X W args → W.ShapedOpen C.prog →
  Calls C.prog f args W fun e W' => ∃ v, e = .returned v ∧ s.post enc C.prog fn apart fresh handsOn again W args v W') :
 ReturnsInHanded a C os f .any (fun w args => (s.pre enc C.prog fn conds apart w args ∧ X w args) ∧ sizedMet enc C.prog fn (OpenSpec.ofChange s) apart w args) (s.post enc C.prog fn apart fresh handsOn again) := by
 refine returnsInHanded_of_calls own started noInit witness ?_
 intro w tape i _ hsh _ hok hpre hholds
 obtain ⟨_, _, _, fn', hfn', _, _, _, _, hval⟩ := hok
 have e : fn' = fn := Option.some.inj (hfn'.symm.trans hfn)
 subst e
 obtain ⟨⟨⟨ds, gs, before, hw, hc⟩, hx⟩, hz⟩ := hpre
 have hw' := DataW.Whole.of_heap (w' := w.forCall tape i) (by rfl) hw
 refine (contract (w.forCall tape i) w.heap.size i.args ds gs before hval hw' (hX _ _ _ (by rfl) hx) hsh).mono fun e W' ⟨v, he, hp⟩ => ?_
 subst he
 exact ChangeSpec.post_blind hp
def IsRow (k : IntKind) (w : World) (a : Option Addr) (len cap : Nat) (zs : List Int) : Prop :=
 (a = none ∧ len = 0 ∧ cap = 0 ∧ zs = []) ∨
 ∃ x, a = some x ∧ len ≤ cap ∧ cap ≤ maxLen ∧ zs.length = cap ∧ (∀ i, i < zs.length → w.cell? (x.add i) = some (.int k (zs.getD i 0))) ∧ ∀ n ∈ zs, (Lit.int k n).wf = true
theorem IsRow.sl {w : World} {a : Option Addr} {len cap : Nat} {zs : List Int} (h : IsRow .i64 w a len cap zs) : IntSl (immOf w) (.slice a len cap) := by
 rcases h with ⟨rfl, rfl, rfl, _⟩ | ⟨x, rfl, h1, h2, h3, h4, _⟩
 · exact ⟨none, 0, 0, rfl, by omega, .inl rfl⟩
 · refine ⟨some x, len, cap, rfl, by simp [maxLen] at h2; omega, ?_⟩
   rcases Nat.eq_zero_or_pos len with h0 | h0
   · exact .inl h0
   · refine .inr ?_
     obtain ⟨b, o, sp⟩ := x
     have g0 := h4 0 (by omega)
     cases sp with
     | some y => exfalso; revert g0; simp only [World.cell?, Addr.add]; split <;> simp
     | none =>
       rw [Go.Eng.Addr.add_none] at g0
       simp only [World.cell?] at g0
       split at g0
       · rename_i c t fz hb
         refine ⟨b, o, c.toList, t, fz, rfl, by rw [Array.toArray_toList]; exact hb, fun j hj => ?_⟩
         have g := h4 j (by omega)
         rw [Go.Eng.Addr.add_none] at g
         simp only [World.cell?, hb] at g
         exact ⟨_, by simpa using g⟩
       · cases g0
theorem below_of {w w' : World} (h : Kept w w') : Below w.heap.size w w' := by
 refine ⟨h.os, h.tape, h.output, Nat.le_of_not_lt fun hlt => ?_, h.block⟩
 have h5 := h.block _ hlt
 rw [Array.getElem?_eq_getElem hlt, Array.getElem?_eq_none (Nat.le_refl _)] at h5
 cases h5
end Go.Proofs.YtckdkhhpjnefpaaGreatDoor
