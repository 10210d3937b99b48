/- The row's ending behind a walk of the engine: what was there before the call is there behind it. No condition. -/
import Derived.Test.YtmcajldlcomegaaRows
import Derived.Test.YtmcajldlcomegaaEng1
import Derived.ProofKit
namespace Go.Eng
open Go Go.ChangeShapes Go.WideShapes Go.ChangeAt Go.RowKit
/-- a world as an immutable part -/
def immOf (w : World) : Imm := ⟨fun b => w.heap[b]?, w.os, w.tape, w.output⟩
theorem St.start (w : World) : St (immOf w) [] w := ⟨rfl, rfl, rfl, fun _ _ h => h, .nil, fun _ h => (by cases h), fun _ h => (by cases h)⟩
/-- what was there is there -/
structure Kept (w w' : World) : Prop where
  os : w'.os = w.os
  tape : w'.tape = w.tape
  output : w'.output = w.output
  block : ∀ k, k < w.heap.size → w'.heap[k]? = w.heap[k]?
theorem Kept.of {w w' : World} {i : Imm} {L : SH} (hi : (immOf w).le i) (hs : St i L w') : Kept w w' :=
  ⟨hs.os.trans hi.os, hs.tape.trans hi.tape, hs.output.trans hi.output, fun k hk => by
    have h : w.heap[k]? = some w.heap[k] := Array.getElem?_eq_getElem hk
    rw [h]
    exact hs.imm k _ (hi.blk k _ h)⟩
theorem FnS.kept {P : Program} {g : FuncId} {args : List Value} {w : World} {v : Value} (h : FnS P g args (immOf w) [] fun u _ _ => u = v) : Calls P g args.toArray w fun e w' => e = .returned v ∧ Kept w w' :=
  (h w (St.start w)).mono fun _ _ ⟨_, _, _, he, hi, hs, hv⟩ => ⟨by rw [he, hv], Kept.of hi hs⟩
theorem Kept.frame {w w' : World} (h : Kept w w') (may : MemPlace → Prop) : w.keptBut w' may := by
  refine ⟨h.os, h.output, fun k hk => ?_⟩
  rw [h.block k hk, Array.getElem?_eq_getElem hk]
  cases w.heap[k] <;> simp
theorem Kept.frozen {w w' : World} (h : Kept w w') (a : Addr) (ha : a.block < w.heap.size) : w'.frozen? a = w.frozen? a := by
  unfold World.frozen?
  rw [h.block _ ha]
section
variable {H : Type} {enc : TypeId × Value → H} {P : Program}
theorem post_of_kept {f : Func} {s : ChangeSpec} {apart fresh handsOn again : Bool} {W W' : World} {args : Array Value} {v : Value} {ds gs : List (DataW H)} {before pa pv : List MemPlace}
    (hW : DataW.Whole enc P f.params.toList s.vars apart W args.toList ds gs before)
    (hres : ∀ (b : Nat) (sp : Nat → Bool) (hd : Bool), DataW.TrodAll enc P W' b sp hd f.resultTypes.toList (v.resultList f.resultTypes.size) (s.fn H (ds ++ gs)).results [])
    (hargs : ∀ sp : Nat → Bool, (∀ p ∈ before, sp p.block = true) → DataW.TrodAll enc P W' 0 sp true f.params.toList args.toList (s.fn H (ds ++ gs)).args pa)
    (hvars : ∀ sp : Nat → Bool, (∀ p ∈ before, sp p.block = true) → DataW.TrodVars enc P W' sp s.vars (s.fn H (ds ++ gs)).vars pv)
    (hps : before = pa ++ pv) (hg : Kept W W')
    (hok : ∀ (j : Nat) (t : TypeId) (r : Value), f.resultTypes[j]? = some t → (v.resultList f.resultTypes.size)[j]? = some r → Value.okWide P W' .any 0 t r) :
    s.post enc P f apart fresh handsOn again W args v W' := by
  have hold : ∀ p ∈ before, (fun b => decide (b < W.heap.size)) p.block = true := fun p hp => by simpa using hW.lt p hp
  refine ⟨ds, gs, before, [], pa, pv, hW, hres _ _ _, hargs _ hold, hvars _ hold, hg.frame _, fun _ => ?_⟩
  have hlt := hW.lt
  obtain ⟨_, _, _, _, _, hz, hn⟩ := hW
  refine ⟨hok, _, _, ([] ++ pa) ++ pv, ⟨[] ++ pa, pv, trodAll_append (hargs _ (fun _ _ => rfl)) (hres _ _ _), hvars _ (fun _ _ => rfl), rfl, ?_, ?_⟩, ?_⟩
  · intro b off hp
    have hb : .cell b off ∈ before := by rw [hps]; simpa using hp
    rw [hg.frozen _ (hlt _ hb)]
    exact hz b off hb
  · intro ha
    have := hn ha
    rw [hps] at this
    simpa using this
  · intro p hp _
    rw [hps]
    simpa using hp
end
end Go.Eng
