/- The proof engine, part 5: building structs and slices, append. No condition. -/
import Derived.Test.YtmcajldlcomegaaEng4
namespace Go.Eng
open Go

theorem run_bind' {P : Program} {α β : Type} (x : Sem α) (f : α → Sem β) (w w' : World) (a : α) (h : x.run P w = .ok a w') : (x >>= f).run P w = (f a).run P w' := by
  simp [h]
theorem run_mapM_list {P : Program} {α β : Type} (g : α → Sem β) (h : α → β) : ∀ (l : List α), (∀ a ∈ l, ∀ w, (g a).run P w = .ok (h a) w) → ∀ w, (l.mapM g).run P w = .ok (l.map h) w
  | [], _, w => by simp
  | a :: l, hg, w => by
    have h1 := hg a (List.mem_cons_self ..) w
    have h2 := run_mapM_list g h l (fun b hb => hg b (List.mem_cons_of_mem _ hb)) w
    simp [List.mapM_cons, h1, h2]
theorem run_mapM {P : Program} {α β : Type} (g : α → Sem β) (h : α → β) (l : Array α) (hg : ∀ a ∈ l, ∀ w, (g a).run P w = .ok (h a) w) (w : World) : (l.mapM g).run P w = .ok (l.map h) w := by
  rw [Array.mapM_eq_mapM_toList]
  have := run_mapM_list (P := P) g h l.toList (fun a ha => hg a (by simpa using ha)) w
  simp [this]
  exact Array.ext' (by simp)

def evParts (n : Nat) (f : Fr) : List (Nat × Operand) → Option (List (Nat × List Value))
  | [] => some []
  | (i, x) :: l => match cellsL (ev n f x) with
    | some vs => (match evParts n f l with | some r => some ((i, vs) :: r) | none => none)
    | none => none
def bld (T : Tab) (n : Nat) (f : Fr) (t : Nat) (parts : List (Nat × Operand)) : Option (List Value) :=
  match tget T t with
  | some ⟨.struct fs, _, _, zero⟩ => bif fs.toList.all (fun fd => (tget T fd.type).isSome) then (match evParts n f parts with | some ps => buildF fs T zero ps | none => none) else none
  | _ => none

section
variable {P : Program} {n : Nat} {f : Fr} {i : Imm} {L : SH} {dst : Option Nat} {ty : TypeId} {pos : String} {aft : Array Edge} {gd : Option (Nat × Bool)} {v : Value} {T : Tab}

theorem fold_put : ∀ (vs cs : List Value) (off : Nat) (cs' : List Value), putAt cs off vs = some cs' →
    (vs.toArray.zipIdx.foldl (fun (a : Array Value) (p : Value × Nat) => a.setIfInBounds (off + p.2) p.1) cs.toArray) = cs'.toArray := by
  intro vs cs off cs' h
  have key : ∀ (vs cs : List Value) (off k : Nat) (cs' : List Value), putAt cs (off + k) vs = some cs' →
      ((vs.zipIdx k).foldl (fun (a : Array Value) (p : Value × Nat) => a.setIfInBounds (off + p.2) p.1) cs.toArray) = cs'.toArray := by
    intro vs
    induction vs with
    | nil => intro cs off k cs' h; cases h; simp
    | cons v vs ih =>
      intro cs off k cs' h
      simp only [putAt] at h
      split at h
      · rename_i c1 h1
        have e := (setX_eq _ _ _ _ h1).1
        simp only [List.zipIdx_cons, List.foldl_cons]
        have := ih c1 off (k + 1) cs' (by rw [← Nat.add_assoc]; exact h)
        rw [← this, ← e]
        simp
      · cases h
  have := key vs cs off 0 cs' (by simpa using h)
  rw [← this]
  rw [← Array.foldl_toList]
  simp
theorem fill_buildF (hT : T.ok P) (fs : Array Field) (places : Array (Nat × Nat)) (hp : ∀ (k : Nat) (fd : Field) (e : TyE), fs[k]? = some fd → tget T fd.type = some e → places[k]? = some (fd.offset, e.size)) :
    ∀ (ps : List (Nat × List Value)) (vs : List (Nat × Value)) (cs cs' : List Value), buildF fs T cs ps = some cs' → ps.map (fun p => (p.1, p.2.toArray)) = vs.map (fun p => (p.1, p.2.cells)) →
      Instr.fill (fun k => places[k]?) cs.toArray vs = some cs'.toArray
  | [], vs, cs, cs', h, hv => by
    cases vs with
    | nil => cases h; rfl
    | cons _ _ => cases hv
  | (k, l) :: ps, vs, cs, cs', h, hv => by
    cases vs with
    | nil => cases hv
    | cons p vs =>
      obtain ⟨k', u⟩ := p
      simp only [List.map_cons, List.cons.injEq, Prod.mk.injEq] at hv
      obtain ⟨⟨rfl, hu⟩, hv⟩ := hv
      simp only [buildF] at h
      split at h
      · rename_i fd hfd
        split at h
        · rename_i e he
          cases hb : (Nat.beq l.length e.size && Nat.blt 0 l.length) with
          | false => rw [hb] at h; cases h
          | true =>
            rw [hb] at h
            simp only [cond_true] at h
            simp only [Bool.and_eq_true] at hb
            split at h
            · rename_i c1 h1
              have hlen := Nat.eq_of_beq_eq_true hb.1
              have hpos : 0 < l.length := by simpa [Nat.blt_eq] using hb.2
              have hpl := hp k fd e hfd he
              obtain ⟨_, e2⟩ := putAt_eq _ _ _ _ h1
              have ih := fill_buildF hT fs places hp ps vs c1 cs' h hv
              have hf := fold_put l cs fd.offset c1 h1
              simp only [Instr.fill, hpl, ← hu]
              rw [if_neg]
              · rw [← ih, ← hf]
              · simp [hlen]; omega
            · cases h
        · cases h
      · cases h

theorem evParts_spec : ∀ (l : List (Nat × Operand)) (ps : List (Nat × List Value)), evParts n f l = some ps → ps.map (fun p => (p.1, p.2.toArray)) = (l.map fun p => (p.1, ev n f p.2)).map (fun p => (p.1, p.2.cells))
  | [], ps, h => by cases h; rfl
  | (k, x) :: l, ps, h => by
    simp only [evParts] at h
    split at h
    · rename_i vs hvs
      split at h
      · rename_i r hr
        cases h
        have := evParts_spec l r hr
        simp [cellsL_eq hvs, this]
      · cases h
    · cases h
theorem PV.build (hT : T.ok P) {t : Nat} {parts : Array (Nat × Operand)} {cs : List Value} (h : bld T n f t parts.toList = some cs) : PV P n f ⟨dst, .build t parts, ty, pos, aft, gd⟩ (.agg cs.toArray) := by
  unfold PV; intro w
  unfold bld at h
  split at h
  · rename_i fs _ _ zero he
    cases hall : fs.toList.all (fun fd => (tget T fd.type).isSome) with
    | false => rw [hall] at h; cases h
    | true =>
      rw [hall] at h
      simp only [cond_true] at h
      split at h
      · rename_i ps hps
        obtain ⟨hu, _, ti, z, hi, hs, hby, hz, hzc⟩ := tget_ok hT he
        have hsz : ∀ fd ∈ fs, ∀ w, (do pure (fd.offset, ← sizeOf fd.type) : Sem (Nat × Nat)).run P w = .ok (fd.offset, ((tget T fd.type).map (·.size)).getD 0) w := by
          intro fd hfd w
          have := List.all_eq_true.1 hall fd (by simpa using hfd)
          obtain ⟨e, hee⟩ := Option.isSome_iff_exists.1 this
          obtain ⟨_, _, ti', z', hi', hs', _⟩ := tget_ok hT hee
          simp [sizeOf, run_info hi', hs', hee]
        have hm := run_mapM (P := P) (fun fd : Field => (do pure (fd.offset, ← sizeOf fd.type) : Sem (Nat × Nat))) (fun fd => (fd.offset, ((tget T fd.type).map (·.size)).getD 0)) fs hsz w
        have hfill := fill_buildF hT fs (fs.map fun fd => (fd.offset, ((tget T fd.type).map (·.size)).getD 0)) (fun k fd e h1 h2 => by simp [h1, h2]) ps (parts.toList.map fun p => (p.1, ev n f p.2)) zero cs h (evParts_spec _ _ hps)
        have hpl : (parts.map fun (k, x) => (k, ev n f x)).toList = parts.toList.map fun p => (p.1, ev n f p.2) := by simp
        have h1 : (zeroValue t).run P w = .ok z w := by simp [zeroValue, run_info hi, hz]
        have hb : (Instr.build t (parts.map fun (k, x) => (k, ev n f x))).run P w = .ok (.agg cs.toArray) w := by
          unfold Instr.build
          rw [run_bind' _ _ _ _ _ h1, run_bind' _ _ _ _ _ (run_underlying hu w)]
          dsimp only
          rw [run_bind' _ _ _ _ _ hm, hpl, hzc, hfill]
          rfl
        simp only [execOp]
        rw [run_bind' _ _ _ _ _ hb]
        rfl
      · cases h
  · cases h
end
end Go.Eng
