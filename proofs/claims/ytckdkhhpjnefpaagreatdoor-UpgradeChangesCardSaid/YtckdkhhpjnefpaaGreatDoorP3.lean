/- What the proof leans on, part 3. No condition. -/
import Derived.Test.YtckdkhhpjnefpaaGreatDoorP2
import Derived.RangeFuncNested
import Derived.Scope
import Derived.Laws.Externs
import Derived.Lib.Bytealg
import Derived.Lib.Case
set_option linter.unusedVariables false
set_option linter.unusedSectionVars false
set_option linter.unusedSimpArgs false
namespace Go.Eng.Ev
noncomputable section
open Go Go.Eng
section
variable {Γ : Tab → Plans → Code → Prop} {ρ : Loc} {D : Dom} {n N G : Nat} {f : Tr VV} {h : VH} {fr : Fr} {P : Program} {T : Tab} {i : Imm} {L : SH} {dst : Option Nat} {ty : TypeId} {pos : String} {aft : Array Edge} {gd : Option (Nat × Bool)}
def evSliceR (T : Tab) (N G : Nat) (f : Tr VV) (h : VH) (t : Nat) (x : Operand) (lo hi : Option Operand) : Option VV :=
 match elSz T t, evO N G f x with
 | some _, some .nils => (match bdV N G f 0 lo, bdV N G f 0 hi with
   | some 0, some 0 => some .nils
   | _, _ => none)
 | some sz, some (.sl b o len (.rest i)) => (match bdV N G f 0 lo, bdV N G f len hi with
   | some l, some hh => bif Nat.ble l hh && capGe h b (.rest i) hh then
    bif Nat.blt l hh || capGe h b (.rest i) (l + 1) then some (.sl b (o + l * sz) (hh - l) (.rest (i + l)))
    else bif Nat.beq l 0 then some (.sl b o 0 (.rest i)) else some (.sle b o (o + l * sz) (i + l))
     else none
   | _, _ => none)
 | some _, some (.sle b o o' i) => (match bdV N G f 0 lo, bdV N G f 0 hi with
   | some 0, some 0 => some (.sle b o o' i)
   | _, _ => none)
 | _, _ => none
theorem run_sliceN (hT : T.ok P) {t sz : Nat} (hs : elSz T t = some sz) (lo hi : Option Value) (hlo : lo = none ∨ ∃ k, lo = some (.int k 0)) (hhi : hi = none ∨ ∃ k, hi = some (.int k 0)) (w : World) :
 (Instr.sliceAt t (.slice none 0 0) lo hi none).run P w = .ok (.slice none 0 0) w := by
 obtain ⟨e, i, z, x', g1, g2, g3, g4, _⟩ := elSz_ok hT hs
 rcases hlo with rfl | ⟨k1, rfl⟩ <;> rcases hhi with rfl | ⟨k2, rfl⟩
 all_goals
  simp [Instr.sliceAt, Instr.slice, Instr.sliceBounds, Instr.sliceBound, asIntOf, run_underlying g1, sizeOf, run_info g2]
theorem evSliceR_ok (hT : T.ok P) (hS : Slots ρ D f fr) (hG : Glob Γ ρ D G) (hL : Lay ρ D h i L) {t : Nat} {x : Operand} {lo hi : Option Operand} {v : VV} (he : evSliceR T N G f h t x lo hi = some v) : v.lt D ∧ PV P N fr ⟨dst, .slice t x lo hi none, ty, pos, aft, gd⟩ (toV ρ v) := by
 unfold evSliceR at he
 split at he
 · rename_i sz hsz hx
   split at he
   · rename_i hl hh
     cases he
     refine ⟨by simp only [VV.lt], ?_⟩
     have hx' := (evO_ok hS hG hx).2
     simp only [toV] at hx' ⊢
     unfold PV; intro w
     have e1 : lo.map (ev N fr) = none ∨ ∃ k, lo.map (ev N fr) = some (.int k 0) := by
      rcases bdV_ok hS hG hl with ⟨rfl, _⟩ | ⟨y, k, rfl, h⟩
      · exact .inl rfl
      · exact .inr ⟨k, by simp [h]⟩
     have e2 : hi.map (ev N fr) = none ∨ ∃ k, hi.map (ev N fr) = some (.int k 0) := by
      rcases bdV_ok hS hG hh with ⟨rfl, _⟩ | ⟨y, k, rfl, h⟩
      · exact .inl rfl
      · exact .inr ⟨k, by simp [h]⟩
     have := run_sliceN (P := P) hT hsz _ _ e1 e2 w
     simp only [execOp, hx', Option.map_none, Sem.run_bind, this, Result.andThen, Sem.run_pure]
   · cases he
 · rename_i sz b o len j hsz hx
   split at he
   · rename_i l hh hl hhi
     obtain ⟨hlt, hx'⟩ := evO_ok hS hG hx
     simp only [VV.lt] at hlt
     simp only [toV, Loc.capOf] at hx'
     cases hc : (Nat.ble l hh && capGe h b (.rest j) hh) with
     | false => rw [hc] at he; cases he
     | true =>
     rw [hc] at he
     simp only [cond_true, Bool.and_eq_true] at he hc
     have h1 := Nat.le_of_ble_eq_true hc.1
     have h2 := capGe_ok hL hc.2
     simp only [Loc.capOf] at h2
     have key := PV.sliceG (P := P) (dst := dst) (ty := ty) (pos := pos) (aft := aft) (gd := gd) hT hx' hsz (bdV_ok hS hG hl) (bdV_ok hS hG hhi) h1 h2
     unfold cutA at key
     cases hq : (Nat.blt l hh || capGe h b (.rest j) (l + 1)) with
     | true =>
       rw [hq] at he
       cases he
       refine ⟨by simp only [VV.lt]; exact hlt, ?_⟩
       have hne : ρ.cap b - j ≠ l := by
        simp only [Bool.or_eq_true, Nat.blt_eq] at hq
        rcases hq with hq | hq
        · omega
        · have := capGe_ok hL hq
          simp only [Loc.capOf] at this
          omega
       rw [if_neg hne] at key
       simp only [toV, Loc.capOf]
       rw [show ρ.cap b - (j + l) = ρ.cap b - j - l by omega]
       exact key
     | false =>
       rw [hq] at he
       simp only [cond_false] at he
       have hlh : hh = l := by
        simp only [Bool.or_eq_false_iff] at hq
        have h3 := hq.1
        cases h4 : Nat.blt l hh with
        | true => rw [h4] at h3; cases h3
        | false =>
          have : ¬ l < hh := fun h5 => by rw [← Nat.blt_eq, h4] at h5; cases h5
          omega
       subst hlh
       cases h0 : Nat.beq hh 0 with
       | true =>
         rw [h0] at he
         cases he
         have := Nat.eq_of_beq_eq_true h0
         subst this
         refine ⟨by simp only [VV.lt]; exact hlt, ?_⟩
         simp only [toV, Loc.capOf]
         simpa using key
       | false =>
         rw [h0] at he
         cases he
         refine ⟨by simp only [VV.lt]; exact hlt, ?_⟩
         simp only [toV]
         rw [Nat.sub_self] at key
         have e1 : ρ.cap b - (j + hh) = ρ.cap b - j - hh := by omega
         rw [e1]
         by_cases hz : ρ.cap b - j = hh
         · rw [if_pos hz] at key
           rw [if_pos (by omega)]
           exact key
         · rw [if_neg hz] at key
           rw [if_neg (by omega)]
           exact key
   · cases he
 · rename_i sz b o o' j hsz hx
   split at he
   · rename_i hl hhi
     cases he
     obtain ⟨hlt, hx'⟩ := evO_ok hS hG hx
     refine ⟨hlt, ?_⟩
     simp only [toV] at hx' ⊢
     have key := PV.sliceG (P := P) (dst := dst) (ty := ty) (pos := pos) (aft := aft) (gd := gd) hT hx' hsz (bdV_ok hS hG hl) (bdV_ok hS hG hhi) (Nat.le_refl 0) (Nat.zero_le _)
     unfold cutA at key
     simpa using key
   · cases he
 · cases he
def evSlice3 (T : Tab) (N G : Nat) (f : Tr VV) (h : VH) (t : Nat) (x : Operand) (lo : Option Operand) (y z : Operand) : Option VV :=
 match elSz T t, evO N G f x with
 | some _, some .nils => (match bdV N G f 0 lo, bdV N G f 0 (some y), bdV N G f 0 (some z) with
   | some 0, some 0, some 0 => some .nils
   | _, _, _ => none)
 | some sz, some (.sl b o _ c) => (match bdV N G f 0 lo, bdV N G f 0 (some y), bdV N G f 0 (some z) with
   | some l, some hh, some m => bif Nat.ble l hh && Nat.ble hh m && capGe h b c m then some (.sl b (bif Nat.beq m l then o else o + l * sz) (hh - l) (.fix (m - l))) else none
   | _, _, _ => none)
 | _, _ => none
theorem run_slice3N (hT : T.ok P) {t sz : Nat} (hs : elSz T t = some sz) (lo : Option Value) (k2 k3 : IntKind) (hlo : lo = none ∨ ∃ k, lo = some (.int k 0)) (w : World) :
 (Instr.sliceAt t (.slice none 0 0) lo (some (.int k2 0)) (some (.int k3 0))).run P w = .ok (.slice none 0 0) w := by
 obtain ⟨e, i, z, x', g1, g2, g3, g4, _⟩ := elSz_ok hT hs
 rcases hlo with rfl | ⟨k1, rfl⟩
 all_goals
  simp [Instr.sliceAt, Instr.slice, Instr.sliceBounds, Instr.sliceBound, asIntOf, run_underlying g1, sizeOf, run_info g2]
theorem run_slice3 (hT : T.ok P) {t sz b o len c l h m : Nat} (hs : elSz T t = some sz) (lo : Option Value) (k2 k3 : IntKind) (hlo : (lo = none ∧ l = 0) ∨ ∃ k, lo = some (.int k (l : Int))) (h1 : l ≤ h) (h2 : h ≤ m) (h3 : m ≤ c) (w : World) :
 (Instr.sliceAt t (.slice (some ⟨b, o, none⟩) len c) lo (some (.int k2 (h : Int))) (some (.int k3 (m : Int)))).run P w = .ok (.slice (some (cutA b o m l sz)) (h - l) (m - l)) w := by
 obtain ⟨e, i, z, x', g1, g2, g3, g4, _⟩ := elSz_ok hT hs
 have a1 : (0 : Int) ≤ (l : Int) ∧ (l : Int) ≤ (h : Int) := by omega
 have a2 : (0 : Int) ≤ (h : Int) ∧ (h : Int) ≤ (m : Int) := by omega
 have a5 : (0 : Int) ≤ (m : Int) ∧ (m : Int) ≤ (c : Int) := by omega
 have a3 : (0 : Int) ≤ (h : Int) := by omega
 have a4 : (0 : Int) ≤ (l : Int) := by omega
 have a6 : (0 : Int) ≤ (m : Int) := by omega
 unfold cutA
 rcases hlo with ⟨rfl, hl0⟩ | ⟨k1, rfl⟩
 all_goals
  by_cases hc : m = l
  · simp_all [Instr.sliceAt, Instr.slice, Instr.sliceBounds, Instr.sliceBound, asIntOf, run_underlying g1, sizeOf, run_info g2]
  · simp_all [Instr.sliceAt, Instr.slice, Instr.sliceBounds, Instr.sliceBound, asIntOf, run_underlying g1, sizeOf, run_info g2, Addr.add_none]
theorem bdV_some (hS : Slots ρ D f fr) (hG : Glob Γ ρ D G) {d l : Nat} {y : Operand} (h : bdV N G f d (some y) = some l) : ∃ k, ev N fr y = .int k (l : Int) := by
 rcases bdV_ok hS hG h with ⟨h1, _⟩ | ⟨y', k, h1, h2⟩
 · cases h1
 · cases h1; exact ⟨k, h2⟩
theorem evSlice3_ok (hT : T.ok P) (hS : Slots ρ D f fr) (hG : Glob Γ ρ D G) (hL : Lay ρ D h i L) {t : Nat} {x y z : Operand} {lo : Option Operand} {v : VV} (he : evSlice3 T N G f h t x lo y z = some v) : v.lt D ∧ PV P N fr ⟨dst, .slice t x lo (some y) (some z), ty, pos, aft, gd⟩ (toV ρ v) := by
 unfold evSlice3 at he
 split at he
 · rename_i sz hsz hx
   split at he
   · rename_i hl hy hz
     cases he
     refine ⟨by simp only [VV.lt], ?_⟩
     have hx' := (evO_ok hS hG hx).2
     simp only [toV] at hx' ⊢
     unfold PV; intro w
     have e1 : lo.map (ev N fr) = none ∨ ∃ k, lo.map (ev N fr) = some (.int k 0) := by
      rcases bdV_ok hS hG hl with ⟨rfl, _⟩ | ⟨y, k, rfl, h⟩
      · exact .inl rfl
      · exact .inr ⟨k, by simp [h]⟩
     obtain ⟨k2, hy'⟩ := bdV_some hS hG hy
     obtain ⟨k3, hz'⟩ := bdV_some hS hG hz
     have := run_slice3N (P := P) hT hsz _ k2 k3 e1 w
     simp only [execOp, hx', Option.map_some, hy', hz', Sem.run_bind]
     simp [this]
   · cases he
 · rename_i sz b o len c hsz hx
   split at he
   · rename_i l hh m hl hy hz
     obtain ⟨hlt, hx'⟩ := evO_ok hS hG hx
     simp only [VV.lt] at hlt
     simp only [toV] at hx'
     cases hc : (Nat.ble l hh && Nat.ble hh m && capGe h b c m) with
     | false => rw [hc] at he; cases he
     | true =>
     rw [hc] at he
     cases he
     simp only [Bool.and_eq_true] at hc
     have h3 := capGe_ok hL hc.2
     obtain ⟨cc, hcc⟩ : ∃ cc, cc = ρ.capOf b c := ⟨_, rfl⟩
     rw [← hcc] at hx' h3
     refine ⟨by simp only [VV.lt]; exact hlt, ?_⟩
     unfold PV; intro w
     have e1 : (lo.map (ev N fr) = none ∧ l = 0) ∨ ∃ k, lo.map (ev N fr) = some (.int k (l : Int)) := by
      rcases bdV_ok hS hG hl with ⟨rfl, h⟩ | ⟨y, k, rfl, h⟩
      · exact .inl ⟨rfl, h⟩
      · exact .inr ⟨k, by simp [h]⟩
     obtain ⟨k2, hy'⟩ := bdV_some hS hG hy
     obtain ⟨k3, hz'⟩ := bdV_some hS hG hz
     have := run_slice3 (P := P) hT hsz (b := ρ.at_ b) (o := o) (len := len) _ k2 k3 e1 (Nat.le_of_ble_eq_true hc.1.1) (Nat.le_of_ble_eq_true hc.1.2) h3 w
     simp only [execOp, hx', Option.map_some, hy', hz', Sem.run_bind, this, Result.andThen, Sem.run_pure, toV, Loc.capOf]
     unfold cutA
     cases hb : Nat.beq m l with
     | true => have := Nat.eq_of_beq_eq_true hb; simp [this]
     | false =>
       have : ¬ m = l := fun e => by subst e; simp at hb
       simp [this]
   · cases he
 · cases he
end
end
end Go.Eng.Ev
namespace Go.Eng.Ev
noncomputable section
open Go Go.Eng
section
variable {Γ : Tab → Plans → Code → Prop} {ρ : Loc} {D : Dom} {n N G : Nat} {f : Tr VV} {h : VH} {fr : Fr} {P : Program} {T : Tab} {i : Imm} {L : SH} {dst : Option Nat} {ty : TypeId} {pos : String} {aft : Array Edge} {gd : Option (Nat × Bool)}
def evBuildZ (T : Tab) (t : Nat) (parts : List (Nat × Operand)) : Option VV :=
 match tget T t, parts with
 | some ⟨.array l e, sz, by_, zero⟩, [] => (match tget T e with
   | some _ => zeroV ⟨.array l e, sz, by_, zero⟩
   | none => none)
 | _, _ => none
theorem evBuildZ_ok (hT : T.ok P) {t : Nat} {parts : Array (Nat × Operand)} {v : VV} (he : evBuildZ T t parts.toList = some v) : v.lt D ∧ PV P N fr ⟨dst, .build t parts, ty, pos, aft, gd⟩ (toV ρ v) := by
 unfold evBuildZ at he
 split at he
 · rename_i l e sz by_ zero ht hp
   split at he
   · rename_i te hte
     obtain ⟨h1, h2⟩ := zeroV_ok he ρ D
     refine ⟨h1, ?_⟩
     have hpp : parts = #[] := Array.ext' hp
     have u1 := (tget_ok hT ht).und
     simp only at u1
     obtain ⟨_, _, i2, z2, g1, g2, _⟩ := tget_ok hT hte
     unfold PV; intro w
     have hz := run_zeroV hT ht h2 w
     have hv : ∃ cs, toV ρ v = .agg cs := by
      unfold zeroV at he
      have ha : isAggD (TypeDesc.array l e) = true := rfl
      simp only [ha, cond_true] at he
      split at he
      · rename_i l2 _; cases he; exact ⟨(toVs ρ l2).toArray, by simp only [toV]⟩
      · cases he
     obtain ⟨cs, hcs⟩ := hv
     rw [hcs] at hz ⊢
     subst hpp
     simp [execOp, Instr.build, hz, run_underlying u1, sizeOf, run_info g1, Instr.fill, Value.cells]
   · cases he
 · cases he
def evIxG (T : Tab) (t : Nat) (a b : VV) : Option VV :=
 match a, b with
 | .agg cs, .int _ (.ofNat j) => (match tget T t with
   | some ⟨.array l e, _, _, _⟩ => (match tget T e with
     | some d => bif Nat.blt j l && isAggD d.desc then (match takeN d.size (dropN (j * d.size) cs) with
       | some r => some (.agg r)
       | none => none) else none
     | none => none)
   | _ => none)
 | _, _ => none
theorem evIxG_ok (hT : T.ok P) {t : Nat} {x y : Operand} {a b v : VV} (hx : ev N fr x = toV ρ a) (ha : a.lt D) (hy : ev N fr y = toV ρ b) (he : evIxG T t a b = some v) : v.lt D ∧ PV P N fr ⟨dst, .index t x y, ty, pos, aft, gd⟩ (toV ρ v) := by
 unfold evIxG at he
 split at he
 · rename_i cs k j
   split at he
   · rename_i l e _ _ _ ht
     split at he
     · rename_i d hd
       cases hb : (Nat.blt j l && isAggD d.desc) with
       | false => rw [hb] at he; cases he
       | true =>
         rw [hb] at he
         simp only [cond_true] at he
         simp only [Bool.and_eq_true] at hb
         have hb' : j < l := by simpa [Nat.blt_eq] using hb.1
         simp only [VV.lt] at ha
         simp only [toV] at hx hy
         split at he
         · rename_i r hr
           cases he
           obtain ⟨h1, h2⟩ := takeN_ok hr
           rw [dropN_eq] at h1
           refine ⟨?_, ?_⟩
           · simp only [VV.lt]
             exact VV.lts_iff.2 fun v hv => VV.lts_iff.1 ha v (List.mem_of_mem_drop (List.mem_of_mem_take (by rw [← h1]; exact hv)))
           · have h9 := PV.indexG (dst := dst) (ty := ty) (pos := pos) (aft := aft) (gd := gd) hT hx hy ht hd hb.2 ⟨by simp, by simpa using hb'⟩
             simp only [toV, h1, toVs_map, List.map_take, List.map_drop]
             simpa only [Int.ofNat_eq_natCast, Int.toNat_natCast, toVs_map] using h9
         · cases he
     · cases he
   · cases he
 · cases he
def evIxA (T : Tab) (t : Nat) (a b : VV) : Option VV :=
 match a, b with
 | .agg cs, .int _ (.ofNat j) => (match arEl T t with
   | some l => bif Nat.blt j l then nth cs j else none
   | none => evIxG T t a b)
 | _, _ => none
theorem evIxA_ok (hT : T.ok P) {t : Nat} {x y : Operand} {a b v : VV} (hx : ev N fr x = toV ρ a) (ha : a.lt D) (hy : ev N fr y = toV ρ b) (he : evIxA T t a b = some v) : v.lt D ∧ PV P N fr ⟨dst, .index t x y, ty, pos, aft, gd⟩ (toV ρ v) := by
 unfold evIxA at he
 split at he
 · rename_i cs k j
   split at he
   · rename_i l hl
     cases hb : Nat.blt j l with
     | false => rw [hb] at he; cases he
     | true =>
       rw [hb] at he
       simp only [cond_true] at he
       have hb' : j < l := by simpa [Nat.blt_eq] using hb
       simp only [VV.lt] at ha
       simp only [toV] at hx hy
       refine ⟨lts_nth ha he, PV.indexA hT hx hy hl ⟨by simp, by simpa using hb'⟩ ?_⟩
       rw [nth_eq] at he
       simp only [Int.ofNat_eq_natCast, Int.toNat_natCast]
       rw [toVs_map, List.getElem?_map, he]; rfl
   · exact evIxG_ok hT hx ha hy he
 · cases he
def evSliceP (T : Tab) (N G : Nat) (f : Tr VV) (t : Nat) (x : Operand) (lo hi : Option Operand) : Option VV :=
 match arSz T t, evO N G f x with
 | some (c, sz), some (.ptr k o) => (match bdV N G f 0 lo, bdV N G f c hi with
   | some l, some hh => bif Nat.ble l hh && Nat.ble hh c then some (.sl k (bif Nat.beq c l then o else o + l * sz) (hh - l) (.fix (c - l))) else none
   | _, _ => none)
 | _, _ => none
theorem run_sliceP (hT : T.ok P) {t sz b o c l h : Nat} (hs : arSz T t = some (c, sz)) (lo hi : Option Value) (hlo : (lo = none ∧ l = 0) ∨ ∃ k, lo = some (.int k (l : Int))) (hhi : (hi = none ∧ h = c) ∨ ∃ k, hi = some (.int k (h : Int))) (h1 : l ≤ h) (h2 : h ≤ c) (w : World) :
 (Instr.sliceAt t (.pointer (some ⟨b, o, none⟩)) lo hi none).run P w = .ok (.slice (some (cutA b o c l sz)) (h - l) (c - l)) w := by
 obtain ⟨e, i, g1, g2, g3⟩ := arSz_ok hT hs
 have a1 : (0 : Int) ≤ (l : Int) ∧ (l : Int) ≤ (h : Int) := by omega
 have a2 : (0 : Int) ≤ (h : Int) ∧ (h : Int) ≤ (c : Int) := by omega
 have a3 : (0 : Int) ≤ (h : Int) := by omega
 have a4 : (0 : Int) ≤ (l : Int) := by omega
 unfold cutA
 rcases hlo with ⟨rfl, hl0⟩ | ⟨k1, rfl⟩ <;> rcases hhi with ⟨rfl, hh0⟩ | ⟨k2, rfl⟩
 all_goals
  by_cases hc : c = l
  · simp_all [Instr.sliceAt, Instr.sureAddr, Instr.sliceBounds, Instr.sliceBound, asIntOf, run_underlying g1, sizeOf, run_info g2]
  · simp_all [Instr.sliceAt, Instr.sureAddr, Instr.sliceBounds, Instr.sliceBound, asIntOf, run_underlying g1, sizeOf, run_info g2, Addr.add_none]
theorem evSliceP_ok (hT : T.ok P) (hS : Slots ρ D f fr) (hG : Glob Γ ρ D G) {t : Nat} {x : Operand} {lo hi : Option Operand} {v : VV} (he : evSliceP T N G f t x lo hi = some v) : v.lt D ∧ PV P N fr ⟨dst, .slice t x lo hi none, ty, pos, aft, gd⟩ (toV ρ v) := by
 unfold evSliceP at he
 split at he
 · rename_i c sz k o hsz hx
   split at he
   · rename_i l hh hl hhi
     obtain ⟨hlt, hx'⟩ := evO_ok hS hG hx
     simp only [VV.lt] at hlt
     simp only [toV] at hx'
     cases hc : (Nat.ble l hh && Nat.ble hh c) with
     | false => rw [hc] at he; cases he
     | true =>
     rw [hc] at he
     cases he
     simp only [Bool.and_eq_true] at hc
     refine ⟨by simp only [VV.lt]; exact hlt, ?_⟩
     unfold PV; intro w
     have e1 : (lo.map (ev N fr) = none ∧ l = 0) ∨ ∃ k, lo.map (ev N fr) = some (.int k (l : Int)) := by
      rcases bdV_ok hS hG hl with ⟨rfl, h⟩ | ⟨y, k, rfl, h⟩
      · exact .inl ⟨rfl, h⟩
      · exact .inr ⟨k, by simp [h]⟩
     have e2 : (hi.map (ev N fr) = none ∧ hh = c) ∨ ∃ k, hi.map (ev N fr) = some (.int k (hh : Int)) := by
      rcases bdV_ok hS hG hhi with ⟨rfl, h⟩ | ⟨y, k, rfl, h⟩
      · exact .inl ⟨rfl, h⟩
      · exact .inr ⟨k, by simp [h]⟩
     have := run_sliceP (P := P) hT hsz _ _ e1 e2 (Nat.le_of_ble_eq_true hc.1) (Nat.le_of_ble_eq_true hc.2) w (b := ρ.at_ k) (o := o)
     simp only [execOp, hx', Option.map_none, Sem.run_bind, this, Result.andThen, Sem.run_pure, toV, Loc.capOf]
     unfold cutA
     cases hb : Nat.beq c l with
     | true => have := Nat.eq_of_beq_eq_true hb; simp [this]
     | false =>
       have : ¬ c = l := fun e => by subst e; simp at hb
       simp [this]
   · cases he
 · cases he
end
end
end Go.Eng.Ev
namespace Go.Eng.Ev
noncomputable section
open Go Go.Eng
section
variable {Γ : Tab → Plans → Code → Prop} {ρ : Loc} {D : Dom} {n N G : Nat} {f : Tr VV} {h : VH} {fr : Fr} {P : Program} {T : Tab} {i : Imm} {L : SH} {dst : Option Nat} {ty : TypeId} {pos : String} {aft : Array Edge} {gd : Option (Nat × Bool)}
def lenS : VV → Option Nat
 | .nils => some 0
 | .sle _ _ _ _ => some 0
 | .sl _ _ m _ => some m
 | .str s => some s.length
 | _ => none
def firstV (n : Nat) : VV → VV
 | .sl k o _ c => .sl k o n c
 | v => v
def evCopy (T : Tab) (t tx : Nat) (a b : VV) (h : VH) (n : Nat) : Option Eff :=
 match elSz T t with
 | some sz => (match lenS b with
   | some m => (match a with
     | .sl k o len _ => (match evSrc T h sz tx (firstV (Nat.min m len) b) with
       | some (m', news) => bif Nat.beq m' (Nat.min m len) then
        bif Nat.beq m' 0 then some ⟨some (.int .i64 0), h, n⟩ else
        (match get k h with
        | some (false, .cells l ty' sz') => (match putN l o news with
          | some l' => some ⟨some (.int .i64 (.ofNat m')), set k (false, .cells l' ty' sz') h, n⟩
          | none => none)
        | _ => none) else none
       | none => none)
     | .nils => (match evSrc T h sz tx (firstV 0 b) with
       | some (0, _) => some ⟨some (.int .i64 0), h, n⟩
       | _ => none)
     | _ => none)
   | none => none)
 | none => none
theorem firstCells_first {sz n : Nat} {b : VV} {w : World} {r : Result (Array Value)} (h : (Builtin.firstCells sz n (toV ρ (firstV n b))).run P w = r) : (Builtin.firstCells sz n (toV ρ b)).run P w = r := by
 cases b <;> first | exact h | (simp only [firstV, toV] at h ⊢; exact h)
theorem lenS_ok {b : VV} {m : Nat} (h : lenS b = some m) (w : World) : (Builtin.lenOf (toV ρ b)).run P w = .ok m w := by
 cases b <;> cases h
 · simp only [toV]
   have : (bytesOf ‹List Nat›).size = (‹List Nat›).length := by unfold bytesOf; show (List.map UInt8.ofNat _).toArray.size = _; simp
   simp [Builtin.lenOf, this]
 · simp [toV, Builtin.lenOf]
 · simp [toV, Builtin.lenOf]
 · simp [toV, Builtin.lenOf]
theorem evCopy_ok (hT : T.ok P) (hL : Lay ρ D h i L) {t tx : Nat} {x y : Operand} {a b : VV} {e : Eff} (hx : ev N fr x = toV ρ a) (hy : ev N fr y = toV ρ b) (ha : a.lt D) (hb : b.lt D) (he : evCopy T t tx a b h n = some e) :
 OpS P N ⟨dst, .call ⟨.builtin .copy, #[x, y], #[t, tx]⟩, ty, pos, aft, gd⟩ fr i L (Post ρ D n e) := by
 unfold evCopy at he
 split at he
 · rename_i sz hsz
   obtain ⟨el, ti, z, x', g1, g2, g3, g4, _⟩ := elSz_ok hT hsz
   split at he
   · rename_i m hm
     have hex : ∀ w r w', (Builtin.copy_ #[t, tx] ty #[toV ρ a, toV ρ b]).run P w = .ok r w' → (execOp (ev N fr) ⟨dst, .call ⟨.builtin .copy, #[x, y], #[t, tx]⟩, ty, pos, aft, gd⟩).run P w = .ok (.value r) w' := by
      intro w r w' hr
      simp [execOp, resolve, hx, hy, invoke, builtin, hr]
     have hfb : ∀ q, (firstV q b).lt D := fun q => by cases b <;> first | exact hb | (simp only [firstV, VV.lt] at hb ⊢; exact hb)
     split at he
     · rename_i k o len c
       split at he
       · rename_i m' news hs
         cases hq : Nat.beq m' (Nat.min m len) with
         | false => rw [hq] at he; cases he
         | true =>
         rw [hq] at he
         simp only [cond_true] at he
         have hq' := Nat.eq_of_beq_eq_true hq
         subst hq'
         obtain ⟨n1, n2, n3⟩ := evSrc_ok hT hL hs (hfb _)
         have hfc : ∀ w, St i L w → (Builtin.firstCells sz (Nat.min m len) (toV ρ b)).run P w = .ok (toVs ρ news).toArray w := fun w hw => firstCells_first (n3 w hw).cells
         cases h0 : Nat.beq (Nat.min m len) 0 with
         | true =>
           rw [h0] at he
           cases he
           have h0' := Nat.eq_of_beq_eq_true h0
           refine OpS.value (v := toV ρ (.int .i64 0)) (fun w hw => hex w _ _ ?_) (post_val hL (by simp only [VV.lt]))
           have hn0 : news = [] := List.eq_nil_of_length_eq_zero (by rw [n2, h0']; simp)
           have h1 := hfc w hw
           rw [hn0, h0'] at h1
           have h2 := lenS_ok (ρ := ρ) (P := P) hm w
           simp only [toV] at h1 h2 ⊢
           simp [Builtin.copy_, run_underlying g1, h2, h0', sizeOf, run_info g2, g3, h1, storeCells, goInt, toVs]
         | false =>
           rw [h0] at he
           simp only [cond_false] at he
           split at he
           · rename_i l ty' sz' hk
             split at he
             · rename_i l' hp
               cases he
               obtain ⟨p1, p2⟩ := putN_ok hp
               obtain ⟨hkD, hklt, _⟩ := hL.ok _ _ _ hk
               obtain ⟨ob, j, ⟨sp, rfl, hcapk⟩, hj⟩ := Lay.own hL hk
               refine OpS.valueW fun w hw => ?_
               have hg := hw.own _ (List.mem_of_getElem? hj)
               simp only at hg
               have hcell : ∀ q, q < (toVs ρ news).length → (w.cell? ⟨ρ.at_ k, o + q, none⟩).isSome = true := fun q hq => by
                rw [toVs_len] at hq
                rw [cell_at hg, List.getElem?_append_left (by rw [toVs_len]; omega), List.getElem?_eq_getElem (by rw [toVs_len]; omega)]; rfl
               have hfz : ∀ q, q < (toVs ρ news).length → w.frozen? ⟨ρ.at_ k, o + q, none⟩ = false := fun q _ => by
                simp [World.frozen?, hg]
               have hst := run_storeCells_cells (P := P) (ρ.at_ k) o (toVs ρ news) 0 w (by simpa using hcell) (by simpa using hfz) (n3 w hw).one
               simp only [Nat.add_zero] at hst
               have hst2 := St.setCells hw (vs := toVs ρ news) (o := o) hj (by rw [List.length_append, toVs_len, toVs_len]; omega)
               have h1 := hfc w hw
               have h2 := lenS_ok (ρ := ρ) (P := P) hm w
               have hlt' : VV.lts D l' := VV.lts_iff.2 fun u hu => by
                rw [p2, List.mem_append, List.mem_append] at hu
                rcases hu with (hu | hu) | hu
                · exact VV.lts_iff.1 hklt u (List.mem_of_mem_take hu)
                · exact VV.lts_iff.1 n1 u hu
                · exact VV.lts_iff.1 hklt u (List.mem_of_mem_drop hu)
               have hlen' : l'.length = l.length := by rw [p2]; simp; omega
               refine ⟨goInt (Nat.min m len), _, i, _, hex w _ _ ?_, Imm.le.refl i, hst2, ρ, Ext.refl D ρ, Nat.le_refl n, ?_, fun v hv => ?_⟩
               · simp only [toV] at h2 ⊢
                 simp [Builtin.copy_, run_underlying g1, h2, sizeOf, run_info g2, g3, h1, hst]
               · refine LayP.mono (Lay.put hL (vo' := .cells l' ty' sz') hk hj hlt' ⟨sp, ?_, by rw [hlen']; exact hcapk⟩) (D.le_upto n n)
                 congr 2
                 rw [p2, toVs_app, toVs_app]
                 simp only [toVs_map, List.map_take, List.map_drop, List.length_map]
                 rw [List.take_append_of_le_length (by rw [List.length_map]; omega), List.drop_append_of_le_length (by rw [List.length_map]; omega)]
                 simp only [List.append_assoc]
               · cases hv
                 exact ⟨by simp only [VV.lt], by simp only [toV]; rfl⟩
             · cases he
           · cases he
       · cases he
     · split at he
       · rename_i news hs
         cases he
         obtain ⟨n1, n2, n3⟩ := evSrc_ok hT hL hs (hfb _)
         refine OpS.value (v := toV ρ (.int .i64 0)) (fun w hw => hex w _ _ ?_) (post_val hL (by simp only [VV.lt]))
         have hn0 : news = [] := List.eq_nil_of_length_eq_zero (by rw [n2]; simp)
         have h1 := firstCells_first (n3 w hw).cells
         rw [hn0] at h1
         have h2 := lenS_ok (ρ := ρ) (P := P) hm w
         simp only [toV] at h2 ⊢
         have h3 : m.min 0 = 0 := Nat.min_zero m
         simp [Builtin.copy_, run_underlying g1, h2, h3, sizeOf, run_info g2, g3, h1, goInt, toVs]
       · cases he
     · cases he
   · cases he
 · cases he
def delK : VEs → Nat → VEs
 | _ :: es, 0 => es
 | e :: es, j + 1 => e :: delK es j
 | [], _ => []
theorem delK_eq : ∀ (es : VEs) (j : Nat), delK es j = es.eraseIdx j
 | [], j => by cases j <;> rfl
 | _ :: es, 0 => rfl
 | e :: es, j + 1 => by rw [delK, delK_eq es j]; rfl
theorem entR_del (ρ : Loc) : ∀ (es : VEs) (j : Nat), (entR ρ es).eraseIdx j = entR ρ (delK es j)
 | [], j => by cases j <;> rfl
 | _ :: es, 0 => rfl
 | e :: es, j + 1 => by
   have := entR_del ρ es j
   simp only [entR, List.map_cons, List.eraseIdx_cons_succ, delK] at this ⊢
   rw [this]
def evDelete (T : Tab) (t : Nat) (a k : VV) (h : VH) (n : Nat) : Option Eff :=
 match tget T t with
 | some ⟨.map kt _, _, _, _⟩ => (match tget T kt with
   | some dk => bif kindOk dk.desc k then (match a with
     | .nilm => some ⟨some (.tup []), h, n⟩
     | .map b => (match get b h with
       | some (false, .map es c) => (match findK k es 0 with
         | some (some (j, _)) => some ⟨some (.tup []), set b (false, .map (delK es j) c) h, n⟩
         | some none => some ⟨some (.tup []), set b (false, .map es c) h, n⟩
         | none => none)
       | _ => none)
     | _ => none) else none
   | none => none)
 | _ => none
theorem evDelete_ok (hT : T.ok P) (hL : Lay ρ D h i L) {t t2 : Nat} {x y : Operand} {a k : VV} {e : Eff} (hx : ev N fr x = toV ρ a) (hy : ev N fr y = toV ρ k) (he : evDelete T t a k h n = some e) :
 OpS P N ⟨dst, .call ⟨.builtin .delete, #[x, y], #[t, t2]⟩, ty, pos, aft, gd⟩ fr i L (Post ρ D n e) := by
 unfold evDelete at he
 split at he
 · rename_i kt et _ _ _ ht
   split at he
   · rename_i dk hdk
     cases hkd : kindOk dk.desc k with
     | false => rw [hkd] at he; cases he
     | true =>
     rw [hkd] at he
     simp only [cond_true] at he
     have u1 := (tget_ok hT ht).und
     have u2 := (tget_ok hT hdk).und
     simp only at u1
     have g4 : ∀ (w : World) (e : Bool), (Instr.checkKey e 10000 kt (toV ρ k)).run P w = .ok () w := fun w e => run_checkKeyV u2 hkd e 9999
     have hex : ∀ w r w', (Builtin.delete_ #[t, t2] ty #[toV ρ a, toV ρ k]).run P w = .ok r w' → (execOp (ev N fr) ⟨dst, .call ⟨.builtin .delete, #[x, y], #[t, t2]⟩, ty, pos, aft, gd⟩).run P w = .ok (.value r) w' := by
      intro w r w' hr
      simp [execOp, resolve, hx, hy, invoke, builtin, hr]
     split at he
     · cases he
       refine OpS.value (v := toV ρ (.tup [])) (fun w hw => hex w _ _ ?_) (post_val hL (by simp [VV.lt, VV.lts]))
       simp only [toV]
       simp [Builtin.delete_, run_underlying u1, g4, toVs]
     · rename_i b
       split at he
       · rename_i es c hb
         obtain ⟨ob, j, ho, hj⟩ := Lay.own hL hb
         have ho' : ob = .map (entR ρ es).toArray c := ho
         subst ho'
         have hlt := (hL.ok _ _ _ hb).2.1
         have main : ∀ (es' : VEs), (∀ e ∈ es', e.1.lt D ∧ e.2.1.lt D) → (∀ w, St i L w → (Builtin.delete_ #[t, t2] ty #[.map (some (ρ.at_ b)), toV ρ k]).run P w = .ok (.tuple #[]) (ChangeMaps.setBlock w (ρ.at_ b) (.map (entR ρ es').toArray c))) →
          OpS P N ⟨dst, .call ⟨.builtin .delete, #[x, y], #[t, t2]⟩, ty, pos, aft, gd⟩ fr i L (Post ρ D n ⟨some (.tup []), set b (false, .map es' c) h, n⟩) := by
          intro es' hes hrun
          refine OpS.valueW fun w hw => ⟨_, _, i, _, hex w _ _ (by simp only [toV] at hrun ⊢; exact hrun w hw), Imm.le.refl i, hw.setBlock _ hj, ρ, Ext.refl D ρ, Nat.le_refl n, (Lay.put hL (vo' := .map es' c) hb hj hes rfl).mono (D.le_upto n n), fun v hv => by cases hv; exact ⟨by simp [VV.lt, VV.lts], by simp [toV, toVs]⟩⟩
         split at he
         · rename_i jj v0 hf
           cases he
           refine main _ (fun e he => hlt e ?_) fun w hw => ?_
           · rw [delK_eq] at he; exact List.mem_of_mem_eraseIdx he
           · have h7 := hw.own _ (List.mem_of_getElem? hj)
             have g1 : (getObj (ρ.at_ b)).run P w = .ok (.map (entR ρ es).toArray c) w := run_getObj_m h7
             have g2 := run_setObj_m (P := P) (.map (entR ρ (delK es jj)).toArray c) h7
             have g3 := run_findKeyV (ρ := ρ) (w := w) u2 hkd hf
             have g5 := entR_del ρ es jj
             simp [Builtin.delete_, run_underlying u1, g1, g4, g3, g5, g2]
             rfl
         · rename_i hf
           cases he
           refine main _ hlt fun w hw => ?_
           have h7 := hw.own _ (List.mem_of_getElem? hj)
           have g1 : (getObj (ρ.at_ b)).run P w = .ok (.map (entR ρ es).toArray c) w := run_getObj_m h7
           have g2 := run_setObj_m (P := P) (.map (entR ρ es).toArray c) h7
           have g3 := run_findKeyV (ρ := ρ) (w := w) u2 hkd hf
           simp [Builtin.delete_, run_underlying u1, g1, g4, g3, g2]
           rfl
         · cases he
       · cases he
     · cases he
   · cases he
 · cases he
def evAppZ (T : Tab) (t tx : Nat) (a b : VV) (n : Nat) : Option (VV × VO) :=
 match tget T t with
 | some ⟨.slice e, _, _, _⟩ => (match tget T e with
   | some te => (match a, b with
     | .nils, .int _ (.ofNat m) => bif tIs T isIntD tx && Nat.blt 0 te.size && Nat.blt 0 m && Nat.ble (m * te.bytes) 1099511627776 && Nat.ble m 1099511627776 then some (.sl n 0 m (.rest 0), .cells [] e te.size) else none
     | _, _ => none)
   | none => none)
 | _ => none
theorem evAppZ_ok (hT : T.ok P) {t tx : Nat} {x y : Operand} {a b v : VV} {vo : VO} (hx : ev N fr x = toV ρ a) (hy : ev N fr y = toV ρ b) (he : evAppZ T t tx a b n = some (v, vo)) : OpS P N ⟨dst, .call ⟨.builtin .append, #[x, y], #[t, tx]⟩, ty, pos, aft, gd⟩ fr i L (NewP ρ D n v vo i L) := by
 unfold evAppZ at he
 split at he
 · rename_i e _ _ _ ht
   split at he
   · rename_i te hte
     split at he
     · rename_i k m
       cases hc : (tIs T isIntD tx && Nat.blt 0 te.size && Nat.blt 0 m && Nat.ble (m * te.bytes) 1099511627776 && Nat.ble m 1099511627776) with
       | false => rw [hc] at he; cases he
       | true =>
       rw [hc] at he
       cases he
       simp only [Bool.and_eq_true, Nat.blt_eq] at hc
       obtain ⟨⟨⟨⟨c1, c2⟩, c3⟩, c4⟩, c5⟩ := hc
       have c4 := Nat.le_of_ble_eq_true c4
       have c5 := Nat.le_of_ble_eq_true c5
       simp only [toV] at hx hy
       refine OpS.appendZ hT hx hy ⟨_, ht, rfl⟩ c1 ⟨_, hte, rfl, rfl⟩ c2 c3 (by omega) (by omega) fun b cap cs hcap hlen => ?_
       refine ⟨rfl, by simp [VV.lt, Dom.add], by simp only [VO.lt, VV.lts], b, _, cap, rfl, by simp [toV, Loc.add, Loc.capOf], cs, by simp [toVs], by simp [Loc.add, hlen]⟩
     · cases he
   · cases he
 · cases he
end
end
end Go.Eng.Ev
namespace Go.Eng.Ev
noncomputable section
open Go Go.Eng
section
variable {Γ : Tab → Plans → Code → Prop} {ρ : Loc} {D : Dom} {n N G : Nat} {f : Tr VV} {h : VH} {fr : Fr} {P : Program} {T : Tab} {i : Imm} {L : SH} {dst : Option Nat} {ty : TypeId} {pos : String} {aft : Array Edge} {gd : Option (Nat × Bool)}
theorem zeroCells_eq {ρ : Loc} {z : Array Value} {zs : List VV} (hz : z = (toVs ρ zs).toArray) (hne : 0 < zs.length) (k : Nat) : Builtin.zeroCells z k = (toVs ρ (repV zs k)).toArray := by
 have hsz : z.size = zs.length := by rw [hz, List.size_toArray, toVs_len]
 apply Array.ext_getElem?
 intro j
 rw [show ((toVs ρ (repV zs k)).toArray)[j]? = ((repV zs k)[j]?).map (toV ρ) from by rw [List.getElem?_toArray, toVs_map, List.getElem?_map]]
 unfold Builtin.zeroCells
 rw [Array.getElem?_map, Array.getElem?_range, hsz]
 by_cases hj : j < k * zs.length
 · rw [repV_get zs k j hj, if_pos hj, Option.map_some]
   have hm : j % zs.length < zs.length := Nat.mod_lt _ hne
   have h3 : z[j % zs.length]? = some (toV ρ zs[j % zs.length]) := by
    rw [hz, List.getElem?_toArray, toVs_map, List.getElem?_map, List.getElem?_eq_getElem hm]; rfl
   rw [getElem!_def, h3, List.getElem?_eq_getElem hm]
   rfl
 · have h1 : (repV zs k)[j]? = none := by rw [List.getElem?_eq_none_iff, repV_len]; omega
   rw [h1, if_neg hj]; rfl
def evClear (T : Tab) (t : Nat) (a : VV) (h : VH) (n : Nat) : Option Eff :=
 match tget T t with
 | some ⟨.slice e, _, _, _⟩ => (match a with
   | .nils => some ⟨some (.tup []), h, n⟩
   | .sle _ _ _ _ => some ⟨some (.tup []), h, n⟩
   | .sl _ _ 0 _ => some ⟨some (.tup []), h, n⟩
   | .sl k o m _ => (match tget T e with
     | some te => (match ofCs te.zero with
       | some zs => bif Nat.blt 0 zs.length && zs.all oneV then (match get k h with
         | some (false, .cells l ty' sz') => (match putN l o (repV zs m) with
           | some l' => some ⟨some (.tup []), set k (false, .cells l' ty' sz') h, n⟩
           | none => none)
         | _ => none) else none
       | none => none)
     | none => none)
   | _ => none)
 | some ⟨.map _ _, _, _, _⟩ => (match a with
   | .nilm => some ⟨some (.tup []), h, n⟩
   | .map b => (match get b h with
     | some (false, .map _ c) => some ⟨some (.tup []), set b (false, .map [] c) h, n⟩
     | _ => none)
   | _ => none)
 | _ => none
theorem evClear_ok (hT : T.ok P) (hL : Lay ρ D h i L) {t : Nat} {x : Operand} {a : VV} {e : Eff} (hx : ev N fr x = toV ρ a) (he : evClear T t a h n = some e) :
 OpS P N ⟨dst, .call ⟨.builtin .clear, #[x], #[t]⟩, ty, pos, aft, gd⟩ fr i L (Post ρ D n e) := by
 have hex : ∀ w r w', (Builtin.clear_ #[t] ty #[toV ρ a]).run P w = .ok r w' → (execOp (ev N fr) ⟨dst, .call ⟨.builtin .clear, #[x], #[t]⟩, ty, pos, aft, gd⟩).run P w = .ok (.value r) w' := by
  intro w r w' hr
  simp [execOp, resolve, hx, invoke, builtin, hr]
 have nothing : (∀ w, St i L w → (Builtin.clear_ #[t] ty #[toV ρ a]).run P w = .ok (.tuple #[]) w) → OpS P N ⟨dst, .call ⟨.builtin .clear, #[x], #[t]⟩, ty, pos, aft, gd⟩ fr i L (Post ρ D n ⟨some (.tup []), h, n⟩) := fun hr =>
  OpS.value (v := toV ρ (.tup [])) (fun w hw => hex w _ _ (by rw [hr w hw]; simp [toV, toVs])) (post_val hL (by simp [VV.lt, VV.lts]))
 unfold evClear at he
 split at he
 · rename_i el _ _ _ ht
   have u1 := (tget_ok hT ht).und
   simp only at u1
   split at he
   · cases he
     refine nothing fun w hw => ?_
     simp only [toV]
     simp [Builtin.clear_, run_underlying u1]
   · cases he
     refine nothing fun w hw => ?_
     simp only [toV]
     simp [Builtin.clear_, run_underlying u1]
   · cases he
     refine nothing fun w hw => ?_
     simp only [toV]
     simp [Builtin.clear_, run_underlying u1]
   · rename_i k o m c hm0
     split at he
     · rename_i te hte
       split at he
       · rename_i zs hzs
         cases hc : (Nat.blt 0 zs.length && zs.all oneV) with
         | false => rw [hc] at he; cases he
         | true =>
         rw [hc] at he
         simp only [cond_true, Bool.and_eq_true, Nat.blt_eq] at he hc
         split at he
         · rename_i l ty' sz' hk
           split at he
           · rename_i l' hp
             cases he
             obtain ⟨p1, p2⟩ := putN_ok hp
             obtain ⟨hkD, hklt, _⟩ := hL.ok _ _ _ hk
             obtain ⟨ob, j, ⟨sp, rfl, hcapk⟩, hj⟩ := Lay.own hL hk
             obtain ⟨_, _, ti, z, hi, _, _, hz, hzc⟩ := tget_ok hT hte
             obtain ⟨z1, z2⟩ := ofCs_ok ρ D hzs
             have hzz : z.cells = (toVs ρ zs).toArray := by rw [hzc, z2]
             have hze := zeroCells_eq hzz hc.1 m
             have hlts : VV.lts D (repV zs m) := VV.lts_iff.2 fun v hv => by
              have : ∀ k, v ∈ repV zs k → v ∈ zs := by
               intro k
               induction k with
               | zero => intro h; cases h
               | succ k ih => intro h; rw [repV, List.mem_append] at h; exact h.elim id ih
              exact VV.lts_iff.1 z1 v (this m hv)
             have hone : ∀ u ∈ toVs ρ (repV zs m), u.oneCell' = true := fun u hu => by
              rw [toVs_map] at hu
              obtain ⟨q, hq, rfl⟩ := List.mem_map.1 hu
              have : ∀ k, q ∈ repV zs k → q ∈ zs := by
               intro k
               induction k with
               | zero => intro h; cases h
               | succ k ih => intro h; rw [repV, List.mem_append] at h; exact h.elim id ih
              exact oneV_ok (List.all_eq_true.1 hc.2 q (this m hq))
             refine OpS.valueW fun w hw => ?_
             have hg := hw.own _ (List.mem_of_getElem? hj)
             simp only at hg
             have hcell : ∀ q, q < (toVs ρ (repV zs m)).length → (w.cell? ⟨ρ.at_ k, o + q, none⟩).isSome = true := fun q hq => by
              rw [toVs_len] at hq
              rw [cell_at hg, List.getElem?_append_left (by rw [toVs_len]; omega), List.getElem?_eq_getElem (by rw [toVs_len]; omega)]; rfl
             have hfz : ∀ q, q < (toVs ρ (repV zs m)).length → w.frozen? ⟨ρ.at_ k, o + q, none⟩ = false := fun q _ => by
              simp [World.frozen?, hg]
             have hst := run_storeCells_cells (P := P) (ρ.at_ k) o (toVs ρ (repV zs m)) 0 w (by simpa using hcell) (by simpa using hfz) hone
             simp only [Nat.add_zero] at hst
             have hst2 := St.setCells hw (vs := toVs ρ (repV zs m)) (o := o) hj (by rw [List.length_append, toVs_len, toVs_len]; omega)
             have hlt' : VV.lts D l' := VV.lts_iff.2 fun u hu => by
              rw [p2, List.mem_append, List.mem_append] at hu
              rcases hu with (hu | hu) | hu
              · exact VV.lts_iff.1 hklt u (List.mem_of_mem_take hu)
              · exact VV.lts_iff.1 hlts u hu
              · exact VV.lts_iff.1 hklt u (List.mem_of_mem_drop hu)
             have hlen' : l'.length = l.length := by rw [p2]; simp; omega
             have hzv : (zeroValue el).run P w = .ok z w := by simp [zeroValue, run_info hi, hz]
             have hm1 : m ≠ 0 := fun e => hm0 e
             refine ⟨.tuple #[], _, i, _, hex w _ _ ?_, Imm.le.refl i, hst2, ρ, Ext.refl D ρ, Nat.le_refl n, ?_, fun v hv => ?_⟩
             · simp only [toV]
               have hz2 : (Builtin.zeroCells z.cells m).toList = toVs ρ (repV zs m) := by rw [hze]
               cases m with
               | zero => exact absurd rfl hm1
               | succ m => simp [Builtin.clear_, run_underlying u1, hzv, hz2, hst]
             · refine LayP.mono (Lay.put hL (vo' := .cells l' ty' sz') hk hj hlt' ⟨sp, ?_, by rw [hlen']; exact hcapk⟩) (D.le_upto n n)
               congr 2
               rw [p2, toVs_app, toVs_app]
               simp only [toVs_map, List.map_take, List.map_drop, List.length_map]
               rw [List.take_append_of_le_length (by rw [List.length_map]; omega), List.drop_append_of_le_length (by rw [List.length_map]; omega)]
               simp only [List.append_assoc]
             · cases hv
               exact ⟨by simp [VV.lt, VV.lts], by simp [toV, toVs]⟩
           · cases he
         · cases he
       · cases he
     · cases he
   · cases he
 · rename_i kt et _ _ _ ht
   have u1 := (tget_ok hT ht).und
   simp only at u1
   split at he
   · cases he
     refine nothing fun w hw => ?_
     simp only [toV]
     simp [Builtin.clear_, run_underlying u1]
   · rename_i b
     split at he
     · rename_i es c hb
       cases he
       obtain ⟨ob, j, ho, hj⟩ := Lay.own hL hb
       have ho' : ob = .map (entR ρ es).toArray c := ho
       subst ho'
       refine OpS.valueW fun w hw => ⟨.tuple #[], _, i, _, hex w _ (ChangeMaps.setBlock w (ρ.at_ b) (.map #[] c)) ?_, Imm.le.refl i, hw.setBlock _ hj, ρ, Ext.refl D ρ, Nat.le_refl n, (Lay.put hL (vo' := .map [] c) hb hj (fun e he => by cases he) rfl).mono (D.le_upto n n), fun v hv => by cases hv; exact ⟨by simp [VV.lt, VV.lts], by simp [toV, toVs]⟩⟩
       have h7 := hw.own _ (List.mem_of_getElem? hj)
       have g1 : (getObj (ρ.at_ b)).run P w = .ok (.map (entR ρ es).toArray c) w := run_getObj_m h7
       have g2 := run_setObj_m (P := P) (.map #[] c) h7
       simp only [toV]
       simp [Builtin.clear_, run_underlying u1, g1, g2]
       rfl
     · cases he
   · cases he
 · cases he
def isIfD : TypeDesc → Bool
 | .interface _ => true
 | _ => false
def evTA (T : Tab) (at_ : Nat) (ok : Bool) (a : VV) : Option VV :=
 match tget T at_ with
 | some e => bif isIfD e.desc then none else (match a with
   | .iface t v => bif Nat.beq t at_ then some (bif ok then .tup [v, .bool true] else v)
     else bif ok then (match zeroV e with
      | some z => some (.tup [z, .bool false])
      | none => none) else none
   | .nili => bif ok then (match zeroV e with
    | some z => some (.tup [z, .bool false])
    | none => none) else none
   | _ => none)
 | none => none
theorem evTA_ok (hT : T.ok P) {xT at_ : Nat} {x : Operand} {ok : Bool} {a v : VV} (hx : ev N fr x = toV ρ a) (ha : a.lt D) (he : evTA T at_ ok a = some v) : v.lt D ∧ PV P N fr ⟨dst, .typeAssert x xT at_ ok, ty, pos, aft, gd⟩ (toV ρ v) := by
 unfold evTA at he
 split at he
 · rename_i e hte
   have u1 := (tget_ok hT hte).und
   cases hi : isIfD e.desc with
   | true => rw [hi] at he; cases he
   | false =>
   rw [hi] at he
   simp only [cond_false] at he
   split at he
   · rename_i t u
     simp only [VV.lt] at ha
     simp only [toV] at hx
     cases hb : Nat.beq t at_ with
     | true =>
       have := Nat.eq_of_beq_eq_true hb
       subst this
       rw [hb] at he
       cases he
       cases ok
       · refine ⟨ha, ?_⟩
         unfold PV; intro w
         simp only [cond_false]
         cases hd : e.desc <;> rw [hd] at hi u1 <;> first | (cases hi; done) | simp [execOp, hx, Instr.typeAssert, run_underlying u1]
       · refine ⟨by simp only [cond_true, VV.lt, VV.lts]; exact ⟨ha, trivial, trivial⟩, ?_⟩
         unfold PV; intro w
         simp only [cond_true, toV, toVs]
         cases hd : e.desc <;> rw [hd] at hi u1 <;> first | (cases hi; done) | simp [execOp, hx, Instr.typeAssert, run_underlying u1]
     | false =>
       rw [hb] at he
       have hne : t ≠ at_ := fun e => by subst e; simp at hb
       cases ok with
       | false => cases he
       | true =>
         simp only [cond_true, cond_false] at he
         split at he
         · rename_i z hz
           cases he
           obtain ⟨z1, z2⟩ := zeroV_ok hz ρ D
           refine ⟨by simp only [VV.lt, VV.lts]; exact ⟨z1, trivial, trivial⟩, ?_⟩
           unfold PV; intro w
           have hzr := run_zeroV hT hte z2 w
           simp only [toV, toVs]
           cases hd : e.desc <;> rw [hd] at hi u1 <;> first | (cases hi; done) | simp [execOp, hx, Instr.typeAssert, run_underlying u1, hne, hzr]
         · cases he
   · simp only [toV] at hx
     cases ok with
     | false => cases he
     | true =>
       simp only [cond_true] at he
       split at he
       · rename_i z hz
         cases he
         obtain ⟨z1, z2⟩ := zeroV_ok hz ρ D
         refine ⟨by simp only [VV.lt, VV.lts]; exact ⟨z1, trivial, trivial⟩, ?_⟩
         unfold PV; intro w
         have hzr := run_zeroV hT hte z2 w
         simp only [toV, toVs]
         cases hd : e.desc <;> rw [hd] at hi u1 <;> first | (cases hi; done) | simp [execOp, hx, Instr.typeAssert, run_underlying u1, hzr]
       · cases he
   · cases he
 · cases he
def fldsOk (T : Tab) (cs : List VV) : List Field → Bool
 | [] => true
 | fd :: fs => (match tget T fd.type, nth cs fd.offset with
   | some d, some v => kindOk d.desc v && fldsOk T cs fs
   | _, _ => false)
def evLook0 (T : Tab) (N G : Nat) (f : Tr VV) (h : VH) (t : Nat) (x y : Operand) (ok : Bool) : Option VV :=
 match tget T t with
 | some ⟨.map kt et, _, _, _⟩ => (match tget T kt, tget T et with
   | some ⟨.struct fs, _, _, _⟩, some de => (match evO N G f x, evO N G f y with
     | some m, some (.agg cs) => bif fldsOk T cs fs.toList then (match esOf h m with
       | some [] => (match zeroV de with
         | some v => some (bif ok then .tup [v, .bool false] else v)
         | none => none)
       | _ => none) else none
     | _, _ => none)
   | _, _ => none)
 | _ => none
theorem run_checkFlds (hT : T.ok P) {cs : List VV} {e : Bool} {m : Nat} {w : World} : ∀ {fs : List Field}, fldsOk T cs fs = true →
 (forIn (m := Sem) fs PUnit.unit fun (fd : Field) (_ : PUnit) => (do
  if fd.name ≠ "_" then Instr.checkKey e (m + 1) fd.type (← part fd.type (toVs ρ cs).toArray fd.offset)
  pure (ForInStep.yield PUnit.unit))).run P w = .ok PUnit.unit w
 | [], _ => by simp
 | fd :: fs, h => by
   simp only [fldsOk] at h
   split at h
   · rename_i d v hd hv
     simp only [Bool.and_eq_true] at h
     have ih := run_checkFlds hT (e := e) (m := m) (w := w) h.2
     have u := (tget_ok hT hd).und
     have hna : isAggD d.desc = false := by cases hdd : d.desc <;> rw [hdd] at h <;> first | rfl | (cases h.1; done)
     have hp : (part fd.type (toVs ρ cs).toArray fd.offset).run P w = .ok (toV ρ v) w := by
      rw [nth_eq] at hv
      simp [part, run_isAgg u, hna, toVs_map, hv]
     have hk := run_checkKeyV (ρ := ρ) (w := w) u h.1 e m
     rw [List.forIn_cons]
     by_cases hn : fd.name = "_"
     · simp [hn]
       simpa using ih
     · simp [hn, hp, hk]
       simpa using ih
   · cases h
theorem evLook0_ok (hT : T.ok P) (hS : Slots ρ D f fr) (hG : Glob Γ ρ D G) (hL : Lay ρ D h i L) {t : Nat} {x y : Operand} {ok : Bool} {v : VV} (hv : evLook0 T N G f h t x y ok = some v) : v.lt D ∧ LV P N fr i L ⟨dst, .lookup t x y ok, ty, pos, aft, gd⟩ (toV ρ v) := by
 unfold evLook0 at hv
 split at hv
 · rename_i kt et _ _ _ ht
   split at hv
   · rename_i fs _ _ _ de hdk hde
     split at hv
     · rename_i m cs hm hk
       cases hkd : fldsOk T cs fs.toList with
       | false => rw [hkd] at hv; cases hv
       | true =>
       rw [hkd] at hv
       simp only [cond_true] at hv
       split at hv
       · rename_i hes
         split at hv
         · rename_i v0 hz
           cases hv
           obtain ⟨m1, m2⟩ := evO_ok hS hG hm
           obtain ⟨k1, k2⟩ := evO_ok hS hG hk
           simp only [toV] at k2
           have u1 := (tget_ok hT ht).und
           have u2 := (tget_ok hT hdk).und
           simp only at u1 u2
           obtain ⟨_, e2⟩ := esOf_ok hL hes m1
           obtain ⟨z1, z2⟩ := zeroV_ok hz ρ D
           refine ⟨?_, ?_⟩
           · cases ok
             · exact z1
             · simp only [cond_true, VV.lt, VV.lts]; exact ⟨z1, trivial, trivial⟩
           · unfold LV; intro w hw
             have g4 : ∀ e, (Instr.checkKey e 10000 kt (.agg (toVs ρ cs).toArray)).run P w = .ok () w := fun e => by
              have := run_checkFlds (ρ := ρ) hT (e := e) (m := 9998) (w := w) hkd
              show (Instr.checkKey e (9999 + 1) kt _).run P w = _
              rw [Instr.checkKey]
              simp only [Sem.run_bind, run_underlying u2, Result.andThen_ok]
              rw [← Array.forIn_toList]
              rw [this]; rfl
             have g3 : (Instr.findKey kt (.agg (toVs ρ cs).toArray) []).run P w = .ok none w := by
              simp [Instr.findKey, run_underlying u2, Instr.findNow]
             have hzr := run_zeroV hT hde z2 w
             have hfin : toV ρ (bif ok then VV.tup [v0, .bool false] else v0) = if ok = true then .tuple #[toV ρ v0, .bool false] else toV ρ v0 := by
              cases ok
              · rfl
              · simp only [cond_true, toV, toVs, if_true]
             rw [hfin]
             rcases e2 with ⟨e2, _⟩ | ⟨bb, c, e2, e3⟩
             · rw [e2] at m2
               simp only [execOp, m2, k2, Instr.lookup]
               simp [run_underlying u1, g4, g3, hzr]
             · rw [e2] at m2
               have g1 : (getObj bb).run P w = .ok (.map (entR ρ []).toArray c) w := run_getObj_m (e3.block hw)
               simp only [execOp, m2, k2, Instr.lookup]
               simp [run_underlying u1, g1, g4, entR, g3, hzr]
         · cases hv
       · cases hv
     · cases hv
   · cases hv
 · cases hv
end
end
end Go.Eng.Ev
namespace Go.Eng.Ev
noncomputable section
open Go Go.Eng
section
variable {Γ : Tab → Plans → Code → Prop} {ρ : Loc} {D : Dom} {n N G : Nat} {f : Tr VV} {h : VH} {fr : Fr} {P : Program} {T : Tab} {i : Imm} {L : SH} {dst : Option Nat} {ty : TypeId} {pos : String} {aft : Array Edge} {gd : Option (Nat × Bool)}
def fsEq (T : Tab) : List Field → Nat → List VV → List VV → Option Bool
 | [], _, _, _ => some true
 | f :: fs, k, x :: xs, y :: ys => bif Nat.beq f.offset k then (match tget T f.type with
  | some e => bif isBasD e.desc && kindOk e.desc x then (match eqK x y with
    | some true => fsEq T fs (k + 1) xs ys
    | r => r) else none
  | none => none) else none
 | _, _, _, _ => none
def evEqS (T : Tab) (N G : Nat) (f : Tr VV) (op : BinOp) (t : Nat) (x y : Operand) : Option VV :=
 match tget T t with
 | some ⟨.struct fs, _, _, _⟩ => bif plainD (.struct fs) then (match evO N G f x with
   | some (.agg xs) => (match evO N G f y with
     | some (.agg ys) => (match fsEq T fs.toList 0 xs ys with
       | some r => (match op with
         | .eql => some (.bool r)
         | .neq => some (.bool (!r))
         | _ => none)
       | none => none)
     | _ => none)
   | _ => none) else none
 | _ => none
theorem eqK_run {d : TypeDesc} {t : Nat} {x y : VV} {r : Bool} (hu : P.underlying t = some d) (hk : kindOk d x = true) (h : eqK x y = some r) (m : Nat) (w : World) : (Op.equalIn (m + 1) t (toV ρ x) (toV ρ y)).run P w = .ok r w := by
 unfold eqK at h
 split at h
 · rename_i k1 n1 k2 n2
   cases hd : decide (k1 = k2) with
   | false => rw [hd] at h; cases h
   | true =>
     rw [hd] at h
     cases h
     have hkk : k1 = k2 := by simpa using hd
     subst hkk
     cases d <;> first | (cases hk; done) | skip
     simp [toV, Op.equalIn, run_underlying hu]
     rfl
 · cases h
   cases d <;> first | (cases hk; done) | skip
   simp only [toV]
   rw [eqS_ok]
   simp [Op.equalIn, run_underlying hu, beq_str]
 · cases h
   cases d <;> first | (cases hk; done) | skip
   simp [toV, Op.equalIn, run_underlying hu]
 · cases h
theorem fsEq_run (hT : T.ok P) (m : Nat) (w : World) (XS YS : List VV) : ∀ {fs : List Field} {k : Nat} {xs ys : List VV} {r : Bool}, (∀ f ∈ fs, plainName f.name = true) → fsEq T fs k xs ys = some r → XS.drop k = xs → YS.drop k = ys → (Op.eqFields (m + 1) (toVs ρ XS).toArray (toVs ρ YS).toArray fs).run P w = .ok r w
 | [], _, _, _, r, _, h, _, _ => by
   cases h
   simp [Op.eqFields]
 | f :: fs, k, [], ys, r, _, h, _, _ => by cases ys <;> cases h
 | f :: fs, k, x :: xs, [], r, _, h, _, _ => by cases h
 | f :: fs, k, x :: xs, y :: ys, r, hp, h, hx, hy => by
   simp only [fsEq] at h
   cases ho : Nat.beq f.offset k with
   | false => rw [ho] at h; cases h
   | true =>
   rw [ho] at h
   simp only [cond_true] at h
   have ho := Nat.eq_of_beq_eq_true ho
   split at h
   · rename_i e he
     cases hb : (isBasD e.desc && kindOk e.desc x) with
     | false => rw [hb] at h; cases h
     | true =>
     rw [hb] at h
     simp only [cond_true] at h
     simp only [Bool.and_eq_true] at hb
     have hu := (tget_ok hT he).und
     have gx : (toVs ρ XS).toArray[k]? = some (toV ρ x) := by
      have := congrArg (·[0]?) hx
      simp only [List.getElem?_drop, Nat.add_zero, List.getElem?_cons_zero] at this
      rw [List.getElem?_toArray, toVs_map, List.getElem?_map, this]; rfl
     have gy : (toVs ρ YS).toArray[k]? = some (toV ρ y) := by
      have := congrArg (·[0]?) hy
      simp only [List.getElem?_drop, Nat.add_zero, List.getElem?_cons_zero] at this
      rw [List.getElem?_toArray, toVs_map, List.getElem?_map, this]; rfl
     have hx' : XS.drop (k + 1) = xs := by rw [← List.drop_drop, hx]; rfl
     have hy' : YS.drop (k + 1) = ys := by rw [← List.drop_drop, hy]; rfl
     have hag : isAggD e.desc = false := by
      cases hd : e.desc <;> rw [hd] at hb <;> first | rfl | (cases hb.1; done)
     have pa : ∀ (A : Array Value) (a : Value), A[k]? = some a → (part f.type A f.offset).run P w = .ok a w := by
      intro A a hA
      simp [part, run_isAgg hu, hag, ho, hA]
     have hn : f.name ≠ "_" := by
      intro e0
      have := hp f (List.mem_cons_self ..)
      rw [e0] at this
      exact absurd this (by decide)
     simp only [Op.eqFields, if_pos hn]
     rw [run_bind' _ _ _ _ _ (pa _ _ gx), run_bind' _ _ _ _ _ (pa _ _ gy)]
     split at h
     · rename_i hk
       rw [run_bind' _ _ _ _ _ (eqK_run hu hb.2 hk m w)]
       have ih := fsEq_run hT m w XS YS (fun f' hf' => hp f' (List.mem_cons_of_mem _ hf')) h hx' hy'
       simpa using ih
     · rename_i hk
       cases r with
       | true => exact absurd h hk
       | false =>
         rw [run_bind' _ _ _ _ _ (eqK_run hu hb.2 h m w)]
         simp
   · cases h
theorem evEqS_ok (hT : T.ok P) (hS : Slots ρ D f fr) (hG : Glob Γ ρ D G) {op : BinOp} {t t2 : Nat} {x y : Operand} {v : VV} (he : evEqS T N G f op t x y = some v) : v.lt D ∧ PV P N fr ⟨dst, .binOp op t x y t2, ty, pos, aft, gd⟩ (toV ρ v) := by
 unfold evEqS at he
 split at he
 · rename_i fs _ _ _ ht
   cases hp : plainD (.struct fs) with
   | false => rw [hp] at he; cases he
   | true =>
   rw [hp] at he
   simp only [cond_true] at he
   have hz := (tget_ok2 hT ht).2.2.2 hp
   have hu := (tget_ok hT ht).und
   have hf : P.fieldsOf t = fs := by unfold Program.fieldsOf; rw [hu]
   have hnm : ∀ f ∈ fs.toList, plainName f.name = true := by
    simp only [plainD, List.all_eq_true] at hp
    exact hp
   split at he
   · rename_i xs hx
     split at he
     · rename_i ys hy
       have hx' := (evO_ok hS hG hx).2
       have hy' := (evO_ok hS hG hy).2
       simp only [toV] at hx' hy'
       split at he
       · rename_i r hr
         have key : ∀ w, (Op.equal t (.agg (toVs ρ xs).toArray) (.agg (toVs ρ ys).toArray)).run P w = .ok r w := by
          intro w
          have := run_equalIn_struct (P := P) w 9999 t (toVs ρ xs).toArray (toVs ρ ys).toArray (by rw [hf]; exact hu) hz.1
          rw [hf] at this
          unfold Op.equal
          rw [show Op.maxDepth = 9999 + 1 from rfl, this]
          exact fsEq_run hT 9998 w xs ys hnm hr rfl rfl
         split at he
         · cases he
           refine ⟨by simp only [VV.lt], ?_⟩
           simp only [toV]
           unfold PV; intro w; simp [execOp, hx', hy', eqGuard, binOp, key, Result.andThen, hz.2]
         · cases he
           refine ⟨by simp only [VV.lt], ?_⟩
           simp only [toV]
           unfold PV; intro w; simp [execOp, hx', hy', eqGuard, binOp, key, Result.andThen, hz.2]
         · cases he
       · cases he
     · cases he
   · cases he
 · cases he
end
end
end Go.Eng.Ev
namespace Go.Eng.Ev
noncomputable section
open Go Go.Eng
theorem RS.mono' {P : Program} {all : List Oper} {n : Nat} {r : List Oper} {f : Fr} {i : Imm} {L : SH} {K K' : Fr → Imm → SH → Prop} (h : RS P all n r f i L K) (hk : ∀ f' i' L', K f' i' L' → K' f' i' L') : RS P all n r f i L K' := by
 unfold RS at *
 intro F hF ds w hw Q hQ
 exact h F hF ds w hw Q fun f' i' L' w' hi hs k => hQ f' i' L' w' hi hs (hk _ _ _ k)
inductive Tgt where
 | fn (g : Nat)
 | it (g : Nat)
 | yld (b : Nat)
abbrev Callee := Tgt → List VV → VH → Nat → Option Eff
def CallS (P : Program) (g : FuncId) (args : List Value) (i : Imm) (L : SH) (Post : Value → Imm → SH → Prop) : Prop :=
 (fnOk P g = true ∧ FnS P g args i L Post) ∨ ∀ w, St i L w → ∃ v w' i' L', (callFunc g args.toArray).run P w = .ok (.value v) w' ∧ i.le i' ∧ St i' L' w' ∧ Post v i' L'
structure CalOk (P : Program) (Γ : Tab → Plans → Code → Prop) (G : Nat) (cal : Callee) : Prop where
 fn : ∀ g vs h n e, cal (.fn g) vs h n = some e → ∀ (ρ : Loc) (D : Dom) (i : Imm) (L : SH), Fresh D n → Glob Γ ρ D G → Lay ρ D h i L → VV.lts D vs → CallS P g (toVs ρ vs) i L (Post ρ D n e)
 it : ∀ g vs h n e, cal (.it g) vs h n = some e → ∀ (ρ : Loc) (D : Dom) (i : Imm) (L : SH), Fresh D n → Glob Γ ρ D G → Lay ρ D h i L → VV.lts D vs → fnOk P g = true ∧ FnS P g (toVs ρ vs) i L (Post ρ D n e)
 yld : ∀ b vs h n e, cal (.yld b) vs h n = some e → ∀ (ρ : Loc) (D : Dom) (i : Imm) (L : SH), Fresh D n → Glob Γ ρ D G → Lay ρ D h i L → D b → VV.lts D vs → YieldS P (ρ.at_ b) (toVs ρ vs) i L fun c i' L' => Post ρ D n e (.bool c) i' L'
section
variable {Γ : Tab → Plans → Code → Prop} {ρ : Loc} {D : Dom} {n N G : Nat} {f : Tr VV} {h : VH} {fr : Fr} {P : Program} {T : Tab} {cal : Callee} {i : Imm} {L : SH}
def evNew (T : Tab) (N G : Nat) (f : Tr VV) (n : Nat) (o : Op) : Option (VV × VO) :=
 match o with
 | .alloc t => evAlloc T t n
 | .box t x => evBox N G f t x n
 | .buildSlice t len parts => evBuildSlice T N G f t len parts.toList n
 | .makeMap _ none => some (.map n, .map [] 0)
 | .makeSlice t x y => evMake T N G f t x y n
 | .convert s d x => evSBytes T N G f s d x n
 | .makeMap t (some x) => (match tget T t with
   | some ⟨.map _ _, _, _, _⟩ => (match evO N G f x with
     | some (.int _ _) => some (.map n, .map [] 0)
     | _ => none)
   | _ => none)
 | _ => none
theorem OpS.makeMapR {K : Value → Imm → SH → Prop} {dst : Option Nat} {ty : TypeId} {pos : String} {aft : Array Edge} {gd : Option (Nat × Bool)} (hT : T.ok P) {t kt et : TypeId} {x : Operand} {k : IntKind} {a : Int} (ht : ∃ d, tget T t = some d ∧ d.desc = .map kt et) (hx : ev N fr x = .int k a) (h : ∀ b, K (.map (some b)) i ((b, .map #[] 0) :: L)) : OpS P N ⟨dst, .makeMap t (some x), ty, pos, aft, gd⟩ fr i L K := by
 obtain ⟨d, h1, h2⟩ := ht
 have h5 := (tget_ok hT h1).und
 rw [h2] at h5
 refine OpS.valueW fun w hw => ?_
 refine ⟨.map (some w.heap.size), { w with heap := w.heap.push (.map #[] 0) }, i, _, ?_, Imm.le.refl i, hw.push rfl rfl rfl rfl, h _⟩
 simp [execOp, Instr.makeMap, newObj, run_underlying h5, hx, asInt, asIntOf]
 rfl
theorem evNew_ok (hT : T.ok P) (hS : Slots ρ D f fr) (hG : Glob Γ ρ D G) (hD : ¬ D n) {o : Oper} {v : VV} {vo : VO} (he : evNew T N G f n o.op = some (v, vo)) : OpS P N o fr i L (NewP ρ D n v vo i L) := by
 obtain ⟨dst, op, ty, pos, aft, gd⟩ := o
 simp only at he
 unfold evNew at he
 split at he
 · exact evAlloc_ok hT hD he
 · exact evBox_ok hS hG hD he
 · exact evBuildSlice_ok hT hS hG hD he
 · cases he
   exact new_of (mk := fun b => .map (some b)) (ob := .map #[] 0) (c := 0) (OpS.makeMap fun b => ⟨b, rfl, rfl, rfl⟩) (fun e he => by cases he) (by simp [VV.lt, Dom.add]) (fun b => rfl) fun b => by simp [toV, Loc.add]
 · exact evMake_ok hT hS hG he
 · exact evSBytes_ok hT hS hG he
 · split at he
   · rename_i kt et _ _ _ ht
     split at he
     · rename_i k a hx
       cases he
       have hx' := (evO_ok hS hG hx).2
       simp only [toV] at hx'
       exact new_of (mk := fun b => .map (some b)) (ob := .map #[] 0) (c := 0) (OpS.makeMapR hT ⟨_, ht, rfl⟩ hx' fun b => ⟨b, rfl, rfl, rfl⟩) (fun e he => by cases he) (by simp [VV.lt, Dom.add]) (fun b => rfl) fun b => by simp [toV, Loc.add]
     · cases he
   · cases he
 · cases he
def evVal (T : Tab) (N G : Nat) (f : Tr VV) (h : VH) (o : Op) : Option VV :=
 match o with
 | .load t x => evRead T N G f h (.load t x)
 | .lookup t x y ok => (match evLookup T N G f h t x y ok with
   | some v => some v
   | none => evLook0 T N G f h t x y ok)
 | .entry x => evEntry N G f x h
 | .build t parts => (match evBuild T N G f t parts.toList with
   | some v => some v
   | none => evBuildZ T t parts.toList)
 | .indexAddr t x y => (match evO N G f x with
   | some a => (match evO N G f y with
     | some b => ixAddr T t a b
     | none => none)
   | none => none)
 | .index t x y => (match evO N G f x with
   | some a => (match evO N G f y with
     | some b => (match ixAt T t a b with
       | some v => some v
       | none => evIxA T t a b)
     | none => none)
   | none => none)
 | .call ⟨.builtin .len, args, ts⟩ => (match args.toList, ts.toList with
   | [x], [t] => (match evO N G f x with
     | some a => (match lenV T t a with
       | some v => some v
       | none => evLenM T t h a)
     | none => none)
   | _, _ => none)
 | .call ⟨.builtin bi, args, ts⟩ => (match evOs N G f args.toList with
   | some vs => evMM T bi ts.toList vs
   | none => none)
 | .field s x k => (match evO N G f x with
   | some a => fldV T s k a
   | none => none)
 | .convert s d x => (match evO N G f x with
   | some a => (match conv T s d a with
     | some v => some v
     | none => evBytesS T s d h a)
   | none => none)
 | .slice t x lo (some y) (some z) => evSlice3 T N G f h t x lo y z
 | .slice t x lo hi none => (match evSliceK T N G f t x lo hi with
   | some v => some v
   | none => (match evSliceT T N G f t x lo hi with
     | some v => some v
     | none => (match evSliceR T N G f h t x lo hi with
       | some v => some v
       | none => evSliceP T N G f t x lo hi)))
 | .typeAssert x _ at_ ok => (match evO N G f x with
   | some a => evTA T at_ ok a
   | none => none)
 | .binOp op t x y t2 => (match evPure T N G f (.binOp op t x y t2) with
   | some v => some v
   | none => (match evEqX T N G f op t x y with
     | some v => some v
     | none => evEqS T N G f op t x y))
 | o => evPure T N G f o
theorem ofPV {o : Oper} {v : Value} (h : PV P N fr o v) : LV P N fr i L o v := by
 unfold PV at h
 unfold LV
 exact fun w _ => h w
theorem evVal_ok (hT : T.ok P) (hS : Slots ρ D f fr) (hG : Glob Γ ρ D G) (hL : Lay ρ D h i L) {o : Oper} {v : VV} (he : evVal T N G f h o.op = some v) : v.lt D ∧ LV P N fr i L o (toV ρ v) := by
 obtain ⟨dst, op, ty, pos, aft, gd⟩ := o
 simp only at he
 unfold evVal at he
 split at he
 · exact evRead_ok hT hS hG hL he
 · split at he
   · rename_i v' hv'
     cases he
     exact evLookup_ok hT hS hG hL hv'
   · exact evLook0_ok hT hS hG hL he
 · exact evEntry_ok hS hG hL he
 · split at he
   · rename_i v' hv
     cases he
     obtain ⟨h1, h2⟩ := evBuild_ok (dst := dst) (ty := ty) (pos := pos) (aft := aft) (gd := gd) hT hS hG hv
     exact ⟨h1, ofPV h2⟩
   · obtain ⟨h1, h2⟩ := evBuildZ_ok (ρ := ρ) (D := D) (fr := fr) (N := N) (dst := dst) (ty := ty) (pos := pos) (aft := aft) (gd := gd) hT he
     exact ⟨h1, ofPV h2⟩
 · split at he
   · rename_i a ha
     split at he
     · rename_i b hb
       obtain ⟨h1, h2⟩ := ixAddr_ok (dst := dst) (ty := ty) (pos := pos) (aft := aft) (gd := gd) hT (evO_ok hS hG ha).2 (evO_ok hS hG ha).1 (evO_ok hS hG hb).2 he
       exact ⟨h1, ofPV h2⟩
     · cases he
   · cases he
 · split at he
   · rename_i a ha
     split at he
     · rename_i b hb
       split at he
       · rename_i v' hv
         cases he
         obtain ⟨h1, h2⟩ := ixAt_ok (D := D) (dst := dst) (ty := ty) (pos := pos) (aft := aft) (gd := gd) hT (evO_ok hS hG ha).2 (evO_ok hS hG hb).2 hv
         exact ⟨h1, ofPV h2⟩
       · obtain ⟨h1, h2⟩ := evIxA_ok (dst := dst) (ty := ty) (pos := pos) (aft := aft) (gd := gd) hT (evO_ok hS hG ha).2 (evO_ok hS hG ha).1 (evO_ok hS hG hb).2 he
         exact ⟨h1, ofPV h2⟩
     · cases he
   · cases he
 · rename_i args ts
   split at he
   · rename_i x t ha ht
     split at he
     · rename_i a hx
       have ea : args = #[x] := Array.ext' ha
       have et : ts = #[t] := Array.ext' ht
       subst ea; subst et
       split at he
       · rename_i v' hv'
         cases he
         obtain ⟨h1, h2⟩ := lenV_ok (D := D) (dst := dst) (ty := ty) (pos := pos) (aft := aft) (gd := gd) hT (evO_ok hS hG hx).2 hv'
         exact ⟨h1, ofPV h2⟩
       · exact evLenM_ok hT hL (evO_ok hS hG hx).2 (evO_ok hS hG hx).1 he
     · cases he
   · cases he
 · split at he
   · rename_i vs hvs
     obtain ⟨h1, h2⟩ := evMM_ok (D := D) (dst := dst) (ty := ty) (pos := pos) (aft := aft) (gd := gd) hT (evOs_ok hS hG hvs).2 he
     exact ⟨h1, ofPV h2⟩
   · cases he
 · split at he
   · rename_i a ha
     obtain ⟨h1, h2⟩ := fldV_ok (dst := dst) (ty := ty) (pos := pos) (aft := aft) (gd := gd) hT (evO_ok hS hG ha).2 (evO_ok hS hG ha).1 he
     exact ⟨h1, ofPV h2⟩
   · cases he
 · split at he
   · rename_i a ha
     split at he
     · rename_i v' hv'
       cases he
       obtain ⟨h1, h2⟩ := conv_ok (D := D) (dst := dst) (ty := ty) (pos := pos) (aft := aft) (gd := gd) hT (evO_ok hS hG ha).2 hv'
       exact ⟨h1, ofPV h2⟩
     · exact evBytesS_ok hT hL (evO_ok hS hG ha).2 he
   · cases he
 · obtain ⟨h1, h2⟩ := evSlice3_ok (dst := dst) (ty := ty) (pos := pos) (aft := aft) (gd := gd) hT hS hG hL he
   exact ⟨h1, ofPV h2⟩
 · split at he
   · rename_i v' hv
     cases he
     obtain ⟨h1, h2⟩ := evSliceK_ok (dst := dst) (ty := ty) (pos := pos) (aft := aft) (gd := gd) hT hS hG hv
     exact ⟨h1, ofPV h2⟩
   · split at he
     · rename_i v' hv
       cases he
       obtain ⟨h1, h2⟩ := evSliceT_ok (dst := dst) (ty := ty) (pos := pos) (aft := aft) (gd := gd) hT hS hG hv
       exact ⟨h1, ofPV h2⟩
     · split at he
       · rename_i v' hv
         cases he
         obtain ⟨h1, h2⟩ := evSliceR_ok (dst := dst) (ty := ty) (pos := pos) (aft := aft) (gd := gd) hT hS hG hL hv
         exact ⟨h1, ofPV h2⟩
       · obtain ⟨h1, h2⟩ := evSliceP_ok (dst := dst) (ty := ty) (pos := pos) (aft := aft) (gd := gd) hT hS hG he
         exact ⟨h1, ofPV h2⟩
 · split at he
   · rename_i a ha
     obtain ⟨h1, h2⟩ := evTA_ok (dst := dst) (ty := ty) (pos := pos) (aft := aft) (gd := gd) hT (evO_ok hS hG ha).2 (evO_ok hS hG ha).1 he
     exact ⟨h1, ofPV h2⟩
   · cases he
 · split at he
   · rename_i v' hv'
     cases he
     obtain ⟨h1, h2⟩ := evPure_ok (dst := dst) (ty := ty) (pos := pos) (aft := aft) (gd := gd) hT hS hG hv'
     exact ⟨h1, ofPV h2⟩
   · split at he
     · rename_i v' hv'
       cases he
       obtain ⟨h1, h2⟩ := evEqX_ok (dst := dst) (ty := ty) (pos := pos) (aft := aft) (gd := gd) hT hS hG hv'
       exact ⟨h1, ofPV h2⟩
     · obtain ⟨h1, h2⟩ := evEqS_ok (dst := dst) (ty := ty) (pos := pos) (aft := aft) (gd := gd) hT hS hG he
       exact ⟨h1, ofPV h2⟩
 · obtain ⟨h1, h2⟩ := evPure_ok (dst := dst) (ty := ty) (pos := pos) (aft := aft) (gd := gd) hT hS hG he
   exact ⟨h1, ofPV h2⟩
def newE (x : Option (VV × VO)) (h : VH) (n : Nat) : Option Eff :=
 match x with
 | some (v, vo) => some ⟨some v, set n (false, vo) h, n + 1⟩
 | none => none
def valE (x : Option VV) (h : VH) (n : Nat) : Option Eff :=
 match x with
 | some v => some ⟨some v, h, n⟩
 | none => none
def evOp (T : Tab) (N G : Nat) (cal : Callee) (f : Tr VV) (h : VH) (n : Nat) (o : Op) : Option Eff :=
 match o with
 | .store t x y => evStore T N G f t x y h n
 | .call ⟨.value (.func g), args, _⟩ => (match evOs N G f args.toList with
   | some vs => cal (.fn g) vs h n
   | none => none)
 | .call ⟨.value x, args, _⟩ => (match evO N G f x with
   | some (.fn (.func g) fs cs) => (match evOs N G f args.toList with
     | some vs => cal (.fn g) (fs ++ vs ++ cs) h n
     | none => none)
   | some (.yld b) => (match evOs N G f args.toList with
     | some vs => cal (.yld b) vs h n
     | none => none)
   | _ => none)
 | .call ⟨.builtin .append, args, ts⟩ => (match args.toList, ts.toList with
   | [x, y], [t, tx] => (match evO N G f x with
     | some a => (match evO N G f y with
       | some b => (match evAppend T t tx a b h n with
         | some e => some e
         | none => newE (evAppZ T t tx a b n) h n)
       | none => none)
     | none => none)
   | _, _ => none)
 | .call ⟨.builtin .clear, args, ts⟩ => (match args.toList, ts.toList with
   | [x], [t] => (match evO N G f x with
     | some a => evClear T t a h n
     | none => none)
   | _, _ => none)
 | .call ⟨.builtin .copy, args, ts⟩ => (match args.toList, ts.toList with
   | [x, y], [t, tx] => (match evO N G f x with
     | some a => (match evO N G f y with
       | some b => evCopy T t tx a b h n
       | none => none)
     | none => none)
   | _, _ => none)
 | .call ⟨.builtin .delete, args, ts⟩ => (match args.toList, ts.toList with
   | [x, y], [t, _] => (match evO N G f x with
     | some a => (match evO N G f y with
       | some b => evDelete T t a b h n
       | none => none)
     | none => none)
   | _, _ => none)
 | .mapUpdate t x y z => evPut T N G f t x y z h n
 | .range t x => newE (evRangeO T N G f t x h n) h n
 | .next x isS => evNext N G f x isS h n
 | .insert t x y z => evPut T N G f t x y z h n
 | .makeMap t r => newE (evNew T N G f n (.makeMap t r)) h n
 | .makeSlice t x y => newE (evNew T N G f n (.makeSlice t x y)) h n
 | .convert s d x => (match newE (evNew T N G f n (.convert s d x)) h n with
   | some e => some e
   | none => valE (evVal T N G f h (.convert s d x)) h n)
 | .alloc t => newE (evNew T N G f n (.alloc t)) h n
 | .box t x => newE (evNew T N G f n (.box t x)) h n
 | .buildSlice t len parts => newE (evNew T N G f n (.buildSlice t len parts)) h n
 | o => valE (evVal T N G f h o) h n
theorem newE_ok (hT : T.ok P) (hS : Slots ρ D f fr) (hG : Glob Γ ρ D G) (hL : Lay ρ D h i L) (hD : Fresh D n) {o : Oper} {e : Eff} (he : newE (evNew T N G f n o.op) h n = some e) : OpS P N o fr i L (Post ρ D n e) := by
 unfold newE at he
 split at he
 · rename_i v vo hv
   cases he
   exact new_push hL hD.not (evNew_ok hT hS hG hD.not hv)
 · cases he
theorem valE_ok (hT : T.ok P) (hS : Slots ρ D f fr) (hG : Glob Γ ρ D G) (hL : Lay ρ D h i L) {o : Oper} {e : Eff} (he : valE (evVal T N G f h o.op) h n = some e) : OpS P N o fr i L (Post ρ D n e) := by
 unfold valE at he
 split at he
 · rename_i v hv
   cases he
   obtain ⟨h1, h2⟩ := evVal_ok hT hS hG hL hv
   unfold LV at h2
   exact OpS.value (fun w hw => h2 w hw) (post_val hL h1)
 · cases he
theorem evOp_ok (hT : T.ok P) (hcal : CalOk P Γ G cal) (hS : Slots ρ D f fr) (hG : Glob Γ ρ D G) (hL : Lay ρ D h i L) (hD : Fresh D n) {o : Oper} {e : Eff} (he : evOp T N G cal f h n o.op = some e) : OpS P N o fr i L (Post ρ D n e) := by
 obtain ⟨dst, op, ty, pos, aft, gd⟩ := o
 simp only at he
 unfold evOp at he
 split at he
 · exact evStore_ok hT hS hG hL hD he
 · split at he
   · rename_i vs hvs
     obtain ⟨h1, h2⟩ := evOs_ok hS hG hvs
     rcases hcal.fn _ _ _ _ _ he ρ D i L hD hG hL h1 with ⟨h3, h4⟩ | h3
     · exact OpS.call h3 h2 h4 fun _ _ _ _ k => k
     · refine OpS.valueW fun w hw => ?_
       obtain ⟨v, w', i', L', k1, k2⟩ := h3 w hw
       refine ⟨v, w', i', L', ?_, k2⟩
       have e2 : ∀ (as : Array Operand), as.map (ev N fr) = (as.toList.map (ev N fr)).toArray := fun as => Array.ext' (by simp)
       rw [← h2] at k1
       simp only [execOp, resolve, ev, Deferred.ofValue, invoke, e2]
       simp
       simp [k1]
   · cases he
 · rename_i x args ats hne
   split at he
   · rename_i g fs cs hx
     split at he
     · rename_i vs hvs
       obtain ⟨h1, h2⟩ := evOs_ok hS hG hvs
       obtain ⟨x1, x2⟩ := evO_ok hS hG hx
       simp only [toV] at x2
       simp only [VV.lt] at x1
       have e1 : toVs ρ (fs ++ vs ++ cs) = (toVs ρ fs).toArray.toList ++ args.toList.map (ev N fr) ++ (toVs ρ cs).toArray.toList := by
        rw [toVs_app, toVs_app, ← h2]
       rcases hcal.fn _ _ _ _ _ he ρ D i L hD hG hL (lts_app (lts_app x1.1 h1) x1.2) with ⟨h3, h4⟩ | h3
       · exact OpS.callV x2 h3 e1.symm h4 fun _ _ _ _ k => k
       · refine OpS.valueW fun w hw => ?_
         obtain ⟨v, w', i', L', k1, k2⟩ := h3 w hw
         refine ⟨v, w', i', L', ?_, k2⟩
         rw [e1] at k1
         have e2 : ∀ (as : Array Operand), (toVs ρ fs).toArray ++ (as.map (ev N fr) ++ (toVs ρ cs).toArray) = ((toVs ρ fs).toArray.toList ++ as.toList.map (ev N fr) ++ (toVs ρ cs).toArray.toList).toArray := fun as => Array.ext' (by simp)
         simp [execOp, resolve, x2, Deferred.ofValue, invoke]
         rw [e2, k1]
     · cases he
   · rename_i b hx
     split at he
     · rename_i vs hvs
       obtain ⟨h1, h2⟩ := evOs_ok hS hG hvs
       obtain ⟨x1, x2⟩ := evO_ok hS hG hx
       simp only [toV] at x2
       simp only [VV.lt] at x1
       exact OpS.yield x2 h2 (hcal.yld _ _ _ _ _ he ρ D i L hD hG hL x1 h1) fun _ _ _ _ k => k
     · cases he
   · cases he
 · rename_i args ts
   split at he
   · rename_i x y t tx hargs hts
     split at he
     · rename_i a ha
       split at he
       · rename_i b hb
         have ea : args = #[x, y] := Array.ext' hargs
         have et : ts = #[t, tx] := Array.ext' hts
         subst ea; subst et
         split at he
         · rename_i e' he'
           cases he
           exact evAppend_ok hT hL hD (evO_ok hS hG ha).2 (evO_ok hS hG hb).2 (evO_ok hS hG ha).1 (evO_ok hS hG hb).1 he'
         · unfold newE at he
           split at he
           · rename_i v vo hv
             cases he
             exact new_push hL hD.not (evAppZ_ok hT (evO_ok hS hG ha).2 (evO_ok hS hG hb).2 hv)
           · cases he
       · cases he
     · cases he
   · cases he
 · rename_i args ts
   split at he
   · rename_i x t hargs hts
     split at he
     · rename_i a ha
       have ea : args = #[x] := Array.ext' hargs
       have et : ts = #[t] := Array.ext' hts
       subst ea; subst et
       exact evClear_ok hT hL (evO_ok hS hG ha).2 he
     · cases he
   · cases he
 · rename_i args ts
   split at he
   · rename_i x y t tx hargs hts
     split at he
     · rename_i a ha
       split at he
       · rename_i b hb
         have ea : args = #[x, y] := Array.ext' hargs
         have et : ts = #[t, tx] := Array.ext' hts
         subst ea; subst et
         exact evCopy_ok hT hL (evO_ok hS hG ha).2 (evO_ok hS hG hb).2 (evO_ok hS hG ha).1 (evO_ok hS hG hb).1 he
       · cases he
     · cases he
   · cases he
 · rename_i args ts
   split at he
   · rename_i x y t tx hargs hts
     split at he
     · rename_i a ha
       split at he
       · rename_i b hb
         have ea : args = #[x, y] := Array.ext' hargs
         have et : ts = #[t, tx] := Array.ext' hts
         subst ea; subst et
         exact evDelete_ok hT hL (evO_ok hS hG ha).2 (evO_ok hS hG hb).2 he
       · cases he
     · cases he
   · cases he
 · exact (evPut_ok hT hS hG hL he).1
 · unfold newE at he
   split at he
   · rename_i v vo hv
     cases he
     exact new_push hL hD.not (evRangeO_ok hT hS hG hL hD.not hv)
   · cases he
 · exact evNext_ok hS hG hL he
 · exact (evPut_ok hT hS hG hL he).2
 · exact newE_ok (o := ⟨dst, .makeMap _ _, ty, pos, aft, gd⟩) hT hS hG hL hD he
 · exact newE_ok (o := ⟨dst, .makeSlice _ _ _, ty, pos, aft, gd⟩) hT hS hG hL hD he
 · split at he
   · rename_i e' he'
     cases he
     exact newE_ok (o := ⟨dst, .convert _ _ _, ty, pos, aft, gd⟩) hT hS hG hL hD he'
   · exact valE_ok (o := ⟨dst, .convert _ _ _, ty, pos, aft, gd⟩) hT hS hG hL he
 · exact newE_ok (o := ⟨dst, .alloc _, ty, pos, aft, gd⟩) hT hS hG hL hD he
 · exact newE_ok (o := ⟨dst, .box _ _, ty, pos, aft, gd⟩) hT hS hG hL hD he
 · exact newE_ok (o := ⟨dst, .buildSlice _ _ _, ty, pos, aft, gd⟩) hT hS hG hL hD he
 · unfold valE at he
   split at he
   · rename_i v hv
     cases he
     obtain ⟨h1, h2⟩ := evVal_ok (o := ⟨dst, _, ty, pos, aft, gd⟩) hT hS hG hL hv
     unfold LV at h2
     exact OpS.value (fun w hw => h2 w hw) (post_val hL h1)
   · cases he
def gvV (N : Nat) (f : Tr VV) (all : List Oper) (j : Nat) : Option (Option Bool) :=
 match nth all j with
 | some o => (match o.dst with
   | some d => bif Nat.blt d N then (match get d f with
     | some (.bool b) => some (some b)
     | some (.tup _) => some none
     | _ => none) else none
   | none => none)
 | none => none
def gokV (N : Nat) (f : Tr VV) (all : List Oper) (o : Oper) : Option Bool :=
 match o.guard with
 | none => some true
 | some (j, want) => (match gvV N f all j with
   | some (some b) => some (b == want)
   | some none => some false
   | none => none)
theorem gvV_ok (hS : Slots ρ D f fr) {all : List Oper} {j : Nat} {b : Option Bool} (h : gvV N f all j = some b) : gv N fr all j = b := by
 unfold gvV at h
 unfold gv
 rw [nth_eq] at h
 split at h
 · rename_i o' ho'
   split at h
   · rename_i d hd
     simp only [ho', Option.bind_some, hd]
     cases hb : Nat.blt d N with
     | false => rw [hb] at h; cases h
     | true =>
       rw [hb] at h
       simp only [cond_true] at h ⊢
       split at h
       · rename_i q hq
         cases h
         rw [(hS d _ hq).2]
         simp only [toV]
       · rename_i q hq
         cases h
         rw [(hS d _ hq).2]
         simp only [toV]
       · cases h
   · cases h
 · cases h
theorem gokV_ok (hS : Slots ρ D f fr) {all : List Oper} {o : Oper} {b : Bool} (h : gokV N f all o = some b) : gok N fr all o = b := by
 unfold gokV at h
 unfold gok
 split at h
 · rename_i hg; cases h; simp only [hg]
 · rename_i j want hg
   simp only [hg]
   split at h
   · rename_i c hc
     cases h
     simp only [gvV_ok hS hc]
   · rename_i hc
     cases h
     simp only [gvV_ok hS hc]
   · cases h
def nextF (dst : Option Nat) (v : Option VV) (f : Tr VV) : Tr VV :=
 match dst, v with
 | some d, some v => set d v f
 | some d, none => del d f
 | none, _ => f
theorem nextF_ok (hS : Slots ρ D f fr) {dst : Option Nat} {v : Option VV} {u : Value} (hv : ∀ w, v = some w → w.lt D ∧ u = toV ρ w) : Slots ρ D (nextF dst v f) (updO fr dst u) := by
 unfold nextF
 cases dst with
 | none => exact hS
 | some d =>
   cases v with
   | none =>
     intro t w hw
     obtain ⟨h1, h2⟩ := get_del hw
     rw [show updO fr (some d) u t = fr t from upd_ne fr u h1]
     exact hS t w h2
   | some w =>
     obtain ⟨h1, rfl⟩ := hv w rfl
     exact hS.upd h1
def evOps (T : Tab) (N G : Nat) (cal : Callee) (all : List Oper) : List Oper → Tr VV → VH → Nat → Option (Tr VV × VH × Nat)
 | [], f, h, n => some (f, h, n)
 | o :: r, f, h, n => (match gokV N f all o with
   | some true => (match evOp T N G cal f h n o.op with
     | some e => evOps T N G cal all r (nextF o.dst e.v f) e.h e.n
     | none => fl _ 0)
   | some false => evOps T N G cal all r (nextF o.dst (some (.tup [])) f) h n
   | none => fl _ 0)
def Aft (ρ : Loc) (D : Dom) (n : Nat) (s : Tr VV × VH × Nat) (fr' : Fr) (i' : Imm) (L' : SH) : Prop := ∃ ρ', Ext D ρ ρ' ∧ n ≤ s.2.2 ∧ Slots ρ' (D.upto n s.2.2) s.1 fr' ∧ Lay ρ' (D.upto n s.2.2) s.2.1 i' L'
theorem upto_upto {D : Dom} {n m k : Nat} (h1 : n ≤ m) (h2 : m ≤ k) : ((D.upto n m).upto m k).le (D.upto n k) := fun b hb => by
 rcases hb with (hb | hb) | hb
 · exact .inl hb
 · exact .inr ⟨hb.1, by omega⟩
 · exact .inr ⟨by omega, hb.2⟩
theorem Slots.mono {D' : Dom} (h1 : Slots ρ D f fr) (hD : D.le D') : Slots ρ D' f fr := fun t v hv => ⟨VV.lt_mono hD v (h1 t v hv).1, (h1 t v hv).2⟩
theorem Aft.step {ρ ρ' : Loc} {D : Dom} {n m : Nat} {s : Tr VV × VH × Nat} {fr' : Fr} {i' : Imm} {L' : SH} (h : Aft ρ' (D.upto n m) m s fr' i' L') (e : Ext D ρ ρ') (hm : n ≤ m) : Aft ρ D n s fr' i' L' := by
 obtain ⟨ρ2, h1, h2, h3, h4⟩ := h
 exact ⟨ρ2, e.trans h1 (D.le_upto n m), Nat.le_trans hm h2, h3.mono (upto_upto hm h2), h4.mono (upto_upto hm h2)⟩
theorem evOps_ok (hT : T.ok P) (hcal : CalOk P Γ G cal) {all : List Oper} {s : Tr VV × VH × Nat} : ∀ {r : List Oper} {ρ : Loc} {D : Dom} {n : Nat} {f : Tr VV} {h : VH} {fr : Fr} {i : Imm} {L : SH} (_ : Slots ρ D f fr) (_ : Glob Γ ρ D G) (_ : Lay ρ D h i L) (_ : Fresh D n), evOps T N G cal all r f h n = some s → RS P all N r fr i L (Aft ρ D n s)
 | [], ρ, D, n, f, h, fr, i, L, hS, hG, hL, hD, he => by
   cases he
   exact RS.nil ⟨ρ, Ext.refl D ρ, Nat.le_refl n, hS.mono (D.le_upto n n), hL.mono (D.le_upto n n)⟩
 | o :: r, ρ, D, n, f, h, fr, i, L, hS, hG, hL, hD, he => by
   simp only [evOps] at he
   split at he
   · rename_i hg
     split at he
     · rename_i e hop
       refine RS.step (gokV_ok hS hg) (OpS.mono (evOp_ok hT hcal hS hG hL hD hop) ?_)
       rintro u i' L' _ ⟨ρ', h1, h2, h3, h4⟩
       refine RS.mono' (evOps_ok hT hcal (nextF_ok (hS.ext h1 (D.le_upto n e.n)) h4) (hG.ext h1 (D.le_upto n e.n)) h3 (hD.upto h2) he) fun fr' i'' L'' k => k.step h1 h2
     · cases he
   · rename_i hg
     refine RS.skip (gokV_ok hS hg) (evOps_ok hT hcal (nextF_ok hS fun w hw => by cases hw; simp [VV.lt, VV.lts, toV, toVs, undef]) hG hL hD he)
   · cases he
end
end
end Go.Eng.Ev
namespace Go.Eng.Ev
noncomputable section
open Go Go.Eng
def eqCap : Cap → Cap → Bool
 | .fix a, .fix b => Nat.beq a b
 | .rest a, .rest b => Nat.beq a b
 | _, _ => false
theorem eqCap_ok : ∀ {a b : Cap}, eqCap a b = true → a = b
 | .fix _, .fix _, h => congrArg _ (Nat.eq_of_beq_eq_true h)
 | .rest _, .rest _, h => congrArg _ (Nat.eq_of_beq_eq_true h)
 | .fix _, .rest _, h => by cases h
 | .rest _, .fix _, h => by cases h
mutual
def eqVV : VV → VV → Bool
 | .bool a, w => (match w with | .bool b => decide (a = b) | _ => false)
 | .int k n, w => (match w with | .int k' n' => decide (k = k') && decide (n = n') | _ => false)
 | .str s, w => (match w with | .str t => decide (s = t) | _ => false)
 | .nilp, w => (match w with | .nilp => true | _ => false)
 | .ptr b o, w => (match w with | .ptr b' o' => Nat.beq b b' && Nat.beq o o' | _ => false)
 | .nils, w => (match w with | .nils => true | _ => false)
 | .sl b o l c, w => (match w with | .sl b' o' l' c' => Nat.beq b b' && Nat.beq o o' && Nat.beq l l' && eqCap c c' | _ => false)
 | .sle b o p i, w => (match w with | .sle b' o' p' i' => Nat.beq b b' && Nat.beq o o' && Nat.beq p p' && Nat.beq i i' | _ => false)
 | .nilm, w => (match w with | .nilm => true | _ => false)
 | .map b, w => (match w with | .map b' => Nat.beq b b' | _ => false)
 | .fn f fs cs, w => (match w with | .fn f' fs' cs' => decide (f = f') && eqVs fs fs' && eqVs cs cs' | _ => false)
 | .nilf, w => (match w with | .nilf => true | _ => false)
 | .yld b, w => (match w with | .yld b' => Nat.beq b b' | _ => false)
 | .iface t v, w => (match w with | .iface t' v' => Nat.beq t t' && eqVV v v' | _ => false)
 | .nili, w => (match w with | .nili => true | _ => false)
 | .agg l, w => (match w with | .agg l' => eqVs l l' | _ => false)
 | .tup l, w => (match w with | .tup l' => eqVs l l' | _ => false)
def eqVs : List VV → List VV → Bool
 | [], w => (match w with | [] => true | _ => false)
 | a :: l, w => (match w with | b :: m => eqVV a b && eqVs l m | _ => false)
end
mutual
theorem eqVV_ok : ∀ (a b : VV), eqVV a b = true → a = b
 | .bool a, w, h => by cases w <;> simp_all [eqVV]
 | .int k n, w, h => by cases w <;> simp_all [eqVV]
 | .str s, w, h => by cases w <;> simp_all [eqVV]
 | .nilp, w, h => by cases w <;> simp_all [eqVV]
 | .ptr b o, w, h => by cases w <;> simp_all [eqVV]
 | .nils, w, h => by cases w <;> simp_all [eqVV]
 | .sl b o l c, w, h => by
   cases w <;> simp only [eqVV, Bool.false_eq_true] at h
   simp only [Bool.and_eq_true] at h
   obtain ⟨⟨⟨h1, h2⟩, h3⟩, h4⟩ := h
   rw [Nat.eq_of_beq_eq_true h1, Nat.eq_of_beq_eq_true h2, Nat.eq_of_beq_eq_true h3, eqCap_ok h4]
 | .sle b o p i, w, h => by cases w <;> simp_all [eqVV]
 | .nilm, w, h => by cases w <;> simp_all [eqVV]
 | .map b, w, h => by cases w <;> simp_all [eqVV]
 | .fn f fs cs, w, h => by
   cases w <;> simp only [eqVV, Bool.false_eq_true] at h
   simp only [Bool.and_eq_true, decide_eq_true_eq] at h
   obtain ⟨⟨h1, h2⟩, h3⟩ := h
   rw [h1, eqVs_ok _ _ h2, eqVs_ok _ _ h3]
 | .nilf, w, h => by cases w <;> simp_all [eqVV]
 | .yld b, w, h => by cases w <;> simp_all [eqVV]
 | .iface t v, w, h => by
   cases w <;> simp only [eqVV, Bool.false_eq_true] at h
   simp only [Bool.and_eq_true] at h
   rw [Nat.eq_of_beq_eq_true h.1, eqVV_ok _ _ h.2]
 | .nili, w, h => by cases w <;> simp_all [eqVV]
 | .agg l, w, h => by
   cases w <;> simp only [eqVV, Bool.false_eq_true] at h
   rw [eqVs_ok _ _ h]
 | .tup l, w, h => by
   cases w <;> simp only [eqVV, Bool.false_eq_true] at h
   rw [eqVs_ok _ _ h]
theorem eqVs_ok : ∀ (a b : List VV), eqVs a b = true → a = b
 | [], w, h => by cases w <;> simp_all [eqVs]
 | a :: l, w, h => by
   cases w <;> simp only [eqVs, Bool.false_eq_true] at h
   simp only [Bool.and_eq_true] at h
   rw [eqVV_ok _ _ h.1, eqVs_ok _ _ h.2]
end
def restr (f : Tr VV) : List Nat → Tr VV
 | [] => .lf
 | t :: l => (match get t f with
   | some v => set t v (restr f l)
   | none => restr f l)
theorem restr_sub {f : Tr VV} {t : Nat} {v : VV} : ∀ {us : List Nat}, get t (restr f us) = some v → t ∈ us ∧ get t f = some v
 | [], h => by rw [restr, get_lf] at h; cases h
 | u :: l, h => by
   simp only [restr] at h
   split at h
   · rename_i w hw
     rcases get_set h with ⟨rfl, rfl⟩ | ⟨_, h⟩
     · exact ⟨by simp, hw⟩
     · exact ⟨List.mem_cons_of_mem _ (restr_sub h).1, (restr_sub h).2⟩
   · exact ⟨List.mem_cons_of_mem _ (restr_sub h).1, (restr_sub h).2⟩
structure DS where
 f : Tr VV
 hb : VH
 h : VH
 n : Nat
 r : Nat
structure SR where
 v : Option VV
 w : Option (Nat × VO)
 hb : VH
 h : VH
 n : Nat
 r : Nat
section
variable (T : Tab) (N G : Nat) (cal : Callee) (all : List Oper) (lim : Nat)
def stepR (p : PE) (o : Oper) (f : Tr VV) (s : DS) : Option SR :=
 match gokV N f all o with
 | some false => (match p.k with
   | 0 => some ⟨some (.tup []), none, s.hb, s.h, s.n, s.r⟩
   | 1 => some ⟨some (.tup []), none, s.hb, s.h, s.n, s.r⟩
   | 2 => some ⟨some (.tup []), none, s.hb, s.h, s.n, s.r⟩
   | _ => some ⟨some (.tup []), none, s.h, s.h, s.n, s.r⟩)
 | some true => (match p.k with
   | 0 => (match evVal T N G f .lf o.op with
     | some v => some ⟨some v, none, s.hb, s.h, s.n, s.r⟩
     | none => none)
   | 1 => (match evVal T N G f s.hb o.op with
     | some v => some ⟨some v, none, s.hb, s.h, s.n, s.r⟩
     | none => none)
   | 2 => bif Nat.blt s.r lim then (match evNew T N G f s.r o.op with
     | some (v, vo) => some ⟨some v, some (s.r, vo), s.hb, set s.r (false, vo) s.h, s.n, s.r + 1⟩
     | none => none) else none
   | _ => (match evOp T N G cal f s.h s.n o.op with
     | some e => some ⟨e.v, none, e.h, e.h, e.n, s.r⟩
     | none => none))
 | none => none
def reOk (f : Tr VV) (h : VH) (x : Nat × List Nat) : Bool :=
 match nth all x.1 with
 | some o => (match gokV N (restr f x.2) all o with
   | some true => (match o.dst with
     | some d => (match get d f with
       | some v => (match evVal T N G (restr f x.2) h o.op with
         | some v' => eqVV v' v
         | none => false)
       | none => false)
     | none => false)
   | some false => true
   | none => false)
 | none => false
def aft (o : Oper) (f : Tr VV) (q : SR) : DS := ⟨nextF o.dst q.v f, q.hb, q.h, q.n, q.r⟩
def evD : List PE → DS → Option DS
 | [], s => some s
 | p :: l, s => (match nth all p.j with
   | some o => (match stepR T N G cal all lim p o (restr s.f p.us) s with
     | some q => bif p.re.all (reOk T N G all (aft o s.f q).f q.hb) then evD l (aft o s.f q) else fl _ 0
     | none => fl _ 0)
   | none => none)
end
def dirs (o : Oper) : List Nat := (o.after.toList.filter fun e => Region.binds .any e).map (·.on)
def hasN (l : List Nat) (a : Nat) : Bool := l.any fun b => Nat.beq b a
theorem hasN_iff {l : List Nat} {a : Nat} : hasN l a = true ↔ a ∈ l := by
 unfold hasN
 rw [List.any_eq_true]
 exact ⟨fun ⟨b, hb, e⟩ => by rw [← Nat.eq_of_beq_eq_true e]; exact hb, fun h => ⟨a, h, Nat.beq_refl a⟩⟩
def eqNs : List Nat → List Nat → Bool
 | [], [] => true
 | a :: l, b :: m => Nat.beq a b && eqNs l m
 | _, _ => false
theorem eqNs_ok : ∀ {l m : List Nat}, eqNs l m = true → l = m
 | [], [], _ => rfl
 | a :: l, b :: m, h => by
   simp only [eqNs, Bool.and_eq_true] at h
   rw [Nat.eq_of_beq_eq_true h.1, eqNs_ok h.2]
 | [], _ :: _, h => by cases h
 | _ :: _, [], h => by cases h
def okPE (all : List Oper) (plan bef : List PE) (p : PE) (o : Oper) : Bool :=
 p.anc.all (fun a => (hasN (dirs o) a || bef.any fun q => hasN (dirs o) q.j && hasN q.anc a) && bef.any fun q => Nat.beq q.j a) &&
 p.us.all (fun t => plan.all fun q => !dstIs all q.j t || hasN p.anc q.j) &&
 bef.all (fun q => !Nat.beq q.j p.j && (!hasN p.anc q.j || q.anc.all (hasN p.anc)) &&
  (Nat.ble p.k 2 || hasN p.anc q.j || (Nat.beq q.k 0 || (Nat.beq q.k 1 && p.re.any fun x => Nat.beq x.1 q.j && eqNs x.2 q.us))) &&
  (!Nat.beq p.k 1 || Nat.ble q.k 2 || hasN p.anc q.j))
def okPEs (all : List Oper) (plan : List PE) : List PE → List PE → Bool
 | _, [] => true
 | bef, p :: l => (match nth all p.j with
   | some o => okPE all plan bef p o && okPEs all plan (bef ++ [p]) l
   | none => false)
def okDst (all : List Oper) (plan : List PE) : Bool :=
 plan.all fun p => match nth all p.j with
  | some o => (match o.dst with
    | some d => plan.all fun q => !dstIs all q.j d || Nat.beq p.j q.j
    | none => true)
  | none => true
def cntNew : List PE → Nat
 | [] => 0
 | p :: l => bif Nat.beq p.k 2 then Nat.succ (cntNew l) else cntNew l
def planOk (all : List Oper) (plan : List PE) (tail : List Nat) : Bool := rgOk all (plan.map (·.j)) tail [] && okPEs all plan [] plan && okDst all plan
end
end Go.Eng.Ev
namespace Go.Eng.Ev
noncomputable section
open Go Go.Eng
section
variable {T : Tab} {N G : Nat} {cal : Callee} {all : List Oper} {lim : Nat} {R R' : Nat → Option VV} {W W' : Nat → Option (Nat × VO)}
inductive Trc (T : Tab) (N G : Nat) (cal : Callee) (all : List Oper) (lim : Nat) (R : Nat → Option VV) (W : Nat → Option (Nat × VO)) : List PE → DS → DS → Prop
 | nil (s : DS) : Trc T N G cal all lim R W [] s s
 | cons {p : PE} {o : Oper} {q : SR} {l : List PE} {s s2 : DS} (ho : all[p.j]? = some o) (hq : stepR T N G cal all lim p o (restr s.f p.us) s = some q) (hre : p.re.all (reOk T N G all (aft o s.f q).f q.hb) = true)
  (hv : R p.j = q.v) (hw : W p.j = q.w) (t : Trc T N G cal all lim R W l (aft o s.f q) s2) : Trc T N G cal all lim R W (p :: l) s s2
theorem Trc.congr {l : List PE} {s s' : DS} (h : Trc T N G cal all lim R W l s s') : (∀ p ∈ l, R' p.j = R p.j ∧ W' p.j = W p.j) → Trc T N G cal all lim R' W' l s s' := by
 induction h with
 | nil s => exact fun _ => .nil s
 | cons ho hq hre hv hw t ih => exact fun k => .cons ho hq hre ((k _ (by simp)).1.trans hv) ((k _ (by simp)).2.trans hw) (ih fun p hp => k p (List.mem_cons_of_mem _ hp))
theorem evD_trc : ∀ (l : List PE) (s s' : DS), (l.map (·.j)).Nodup → evD T N G cal all lim l s = some s' → ∃ R W, Trc T N G cal all lim R W l s s'
 | [], s, s', _, h => by cases h; exact ⟨fun _ => none, fun _ => none, .nil s⟩
 | p :: l, s, s', hn, h => by
   simp only [evD] at h
   split at h
   · rename_i o ho
     split at h
     · rename_i q hq
       cases hb : p.re.all (reOk T N G all (aft o s.f q).f q.hb) with
       | false => rw [hb] at h; cases h
       | true =>
         rw [hb] at h
         simp only [List.map_cons, List.nodup_cons] at hn
         obtain ⟨R, W, t⟩ := evD_trc l _ s' hn.2 h
         refine ⟨fun k => if k = p.j then q.v else R k, fun k => if k = p.j then q.w else W k, .cons (by rw [← nth_eq]; exact ho) hq hb (by simp) (by simp) (t.congr fun x hx => ?_)⟩
         have : x.j ≠ p.j := fun e => hn.1 (by rw [← e]; exact List.mem_map.2 ⟨x, hx, rfl⟩)
         simp [this]
     · cases h
   · cases h
theorem Trc.split : ∀ {a b : List PE} {s s' : DS}, Trc T N G cal all lim R W (a ++ b) s s' → ∃ m, Trc T N G cal all lim R W a s m ∧ Trc T N G cal all lim R W b m s'
 | [], b, s, s', h => ⟨s, .nil s, h⟩
 | p :: a, b, s, s', h => by
   cases h with
   | cons ho hq hre hv hw t =>
     obtain ⟨m, h1, h2⟩ := t.split
     exact ⟨m, .cons ho hq hre hv hw h1, h2⟩
theorem Trc.app {a b : List PE} {s m s' : DS} (h : Trc T N G cal all lim R W a s m) : Trc T N G cal all lim R W b m s' → Trc T N G cal all lim R W (a ++ b) s s' := by
 induction h with
 | nil s => exact id
 | cons ho hq hre hv hw t ih => exact fun k => .cons ho hq hre hv hw (ih k)
theorem nextF_get {d : Option Nat} {v : Option VV} {f : Tr VV} {t : Nat} {w : VV} (h : get t (nextF d v f) = some w) : (d = some t ∧ v = some w) ∨ (d ≠ some t ∧ get t f = some w) := by
 unfold nextF at h
 cases d with
 | none => exact .inr ⟨by simp, h⟩
 | some d =>
   cases v with
   | none =>
     obtain ⟨h1, h2⟩ := get_del h
     exact .inr ⟨fun e => h1 (Option.some.inj e).symm, h2⟩
   | some v =>
     rcases get_set h with ⟨rfl, rfl⟩ | ⟨h1, h2⟩
     · exact .inl ⟨rfl, rfl⟩
     · exact .inr ⟨fun e => h1 (Option.some.inj e).symm, h2⟩
theorem Trc.frame {l : List PE} {s s' : DS} (h : Trc T N G cal all lim R W l s s') {t : Nat} {v : VV} : get t s'.f = some v →
 (∃ q ∈ l, ∃ o, all[q.j]? = some o ∧ o.dst = some t ∧ R q.j = some v) ∨ (get t s.f = some v ∧ ∀ q ∈ l, ∀ o, all[q.j]? = some o → o.dst ≠ some t) := by
 induction h with
 | nil s => exact fun h => .inr ⟨h, fun q hq => by cases hq⟩
 | @cons p o q l s s2 ho hq hre hv hw tt ih =>
   intro h
   rcases ih h with ⟨x, hx, o', h1, h2, h3⟩ | ⟨h1, h2⟩
   · exact .inl ⟨x, List.mem_cons_of_mem _ hx, o', h1, h2, h3⟩
   · rcases nextF_get h1 with ⟨h3, h4⟩ | ⟨h3, h4⟩
     · exact .inl ⟨p, by simp, o, ho, h3, hv.trans h4⟩
     · refine .inr ⟨h4, fun x hx o' ho' => ?_⟩
       rcases List.mem_cons.1 hx with rfl | hx
       · rw [ho] at ho'; cases ho'; exact h3
       · exact h2 x hx o' ho'
theorem stepR_r {p : PE} {o : Oper} {f : Tr VV} {s : DS} {q : SR} (h : stepR T N G cal all lim p o f s = some q) : (q.w = none ∧ q.r = s.r) ∨ (p.k = 2 ∧ s.r < lim ∧ q.r = s.r + 1 ∧ ∃ vo, q.w = some (s.r, vo)) := by
 unfold stepR at h
 split at h
 · split at h <;> (cases h; exact .inl ⟨rfl, rfl⟩)
 · split at h
   · split at h
     · cases h; exact .inl ⟨rfl, rfl⟩
     · cases h
   · split at h
     · cases h; exact .inl ⟨rfl, rfl⟩
     · cases h
   · rename_i hk
     cases hb : Nat.blt s.r lim with
     | false => rw [hb] at h; cases h
     | true =>
       rw [hb] at h
       simp only [cond_true] at h
       split at h
       · rename_i v vo _
         cases h
         exact .inr ⟨hk, by simpa [Nat.blt_eq] using hb, rfl, vo, rfl⟩
       · cases h
   · split at h
     · cases h; exact .inl ⟨rfl, rfl⟩
     · cases h
 · cases h
theorem Trc.names {l : List PE} {s s' : DS} (h : Trc T N G cal all lim R W l s s') : s.r ≤ s'.r ∧ ∀ q ∈ l, ∀ b vo, W q.j = some (b, vo) → s.r ≤ b ∧ b < s'.r ∧ b < lim ∧ q.k = 2 := by
 induction h with
 | nil s => exact ⟨Nat.le_refl _, fun q hq => by cases hq⟩
 | @cons p o q l s s2 ho hq hre hv hw tt ih =>
   obtain ⟨h1, h2⟩ := ih
   simp only [aft] at h1 h2
   have h3 := stepR_r hq
   have h4 : s.r ≤ q.r := by rcases h3 with ⟨_, e⟩ | ⟨_, _, e, _⟩ <;> omega
   refine ⟨Nat.le_trans h4 h1, fun x hx b vo hb => ?_⟩
   rcases List.mem_cons.1 hx with rfl | hx
   · rw [hw] at hb
     rcases h3 with ⟨e, _⟩ | ⟨hk, hl, e, vo', e'⟩
     · rw [e] at hb; cases hb
     · rw [e'] at hb
       cases hb
       exact ⟨Nat.le_refl _, by omega, hl, hk⟩
   · obtain ⟨k1, k2, k3⟩ := h2 x hx b vo hb
     exact ⟨by omega, k2, k3⟩
theorem Trc.namesInj {l : List PE} {s s' : DS} (h : Trc T N G cal all lim R W l s s') : ∀ p ∈ l, ∀ q ∈ l, ∀ b vo vo', W p.j = some (b, vo) → W q.j = some (b, vo') → p.j = q.j := by
 induction h with
 | nil s => exact fun q hq => by cases hq
 | @cons p o q l s s2 ho hq hre hv hw tt ih =>
   have h2 := tt.names.2
   simp only [aft] at h2
   have h3 := stepR_r hq
   have own : ∀ b vo, W p.j = some (b, vo) → b < q.r := fun b vo hb => by
    rw [hw] at hb
    rcases h3 with ⟨e, _⟩ | ⟨hk, hl, e, vo', e'⟩
    · rw [e] at hb; cases hb
    · rw [e'] at hb; cases hb; omega
   intro x hx y hy b vo vo' hbx hby
   rcases List.mem_cons.1 hx with ex | hx' <;> rcases List.mem_cons.1 hy with ey | hy'
   · rw [ex, ey]
   · subst ex
     have := own b vo hbx
     have := (h2 y hy' b vo' hby).1
     omega
   · subst ey
     have := own b vo' hby
     have := (h2 x hx' b vo hbx).1
     omega
   · exact ih x hx' y hy' b vo vo' hbx hby
theorem stepR_low {p : PE} {o : Oper} {f : Tr VV} {s : DS} {q : SR} (hk : p.k ≤ 2) (h : stepR T N G cal all lim p o f s = some q) : q.hb = s.hb ∧ q.n = s.n ∧ ∀ k fz vo, get k q.h = some (fz, vo) → get k s.h = some (fz, vo) ∨ (fz = false ∧ q.w = some (k, vo)) := by
 unfold stepR at h
 split at h
 · split at h
   · cases h; exact ⟨rfl, rfl, fun _ _ _ h => .inl h⟩
   · cases h; exact ⟨rfl, rfl, fun _ _ _ h => .inl h⟩
   · cases h; exact ⟨rfl, rfl, fun _ _ _ h => .inl h⟩
   · rename_i h0 h1 h2
     exfalso
     have hk' : p.k = 0 ∨ p.k = 1 ∨ p.k = 2 := by omega
     rcases hk' with e | e | e
     · exact h0 e
     · exact h1 e
     · exact h2 e
 · split at h
   · split at h
     · cases h; exact ⟨rfl, rfl, fun _ _ _ h => .inl h⟩
     · cases h
   · split at h
     · cases h; exact ⟨rfl, rfl, fun _ _ _ h => .inl h⟩
     · cases h
   · cases hb : Nat.blt s.r lim with
     | false => rw [hb] at h; cases h
     | true =>
       rw [hb] at h
       simp only [cond_true] at h
       split at h
       · cases h
         refine ⟨rfl, rfl, fun k fz vo hk => ?_⟩
         rcases set_sub k fz vo hk with ⟨rfl, rfl, rfl⟩ | ⟨_, hk⟩
         · exact .inr ⟨rfl, rfl⟩
         · exact .inl hk
       · cases h
   · rename_i h0 h1 h2
     exfalso
     have hk' : p.k = 0 ∨ p.k = 1 ∨ p.k = 2 := by omega
     rcases hk' with e | e | e
     · exact h0 e
     · exact h1 e
     · exact h2 e
 · cases h
theorem Trc.low {l : List PE} {s s' : DS} (h : Trc T N G cal all lim R W l s s') : (∀ q ∈ l, q.k ≤ 2) → s'.hb = s.hb ∧ s'.n = s.n ∧ ∀ k fz vo, get k s'.h = some (fz, vo) → get k s.h = some (fz, vo) ∨ (fz = false ∧ ∃ q ∈ l, W q.j = some (k, vo)) := by
 induction h with
 | nil s => exact fun _ => ⟨rfl, rfl, fun _ _ _ h => .inl h⟩
 | @cons p o q l s s2 ho hq hre hv hw tt ih =>
   intro hk
   obtain ⟨h1, h2, h3⟩ := ih fun x hx => hk x (List.mem_cons_of_mem _ hx)
   obtain ⟨k1, k2, k3⟩ := stepR_low (hk p (by simp)) hq
   simp only [aft] at h1 h2 h3
   refine ⟨h1.trans k1, h2.trans k2, fun k fz vo hg => ?_⟩
   rcases h3 k fz vo hg with hg | ⟨e, x, hx, hxw⟩
   · rcases k3 k fz vo hg with hg | ⟨e, hqw⟩
     · exact .inl hg
     · exact .inr ⟨e, p, by simp, hw.trans hqw⟩
   · exact .inr ⟨e, x, List.mem_cons_of_mem _ hx, hxw⟩
structure PEok (all : List Oper) (plan a : List PE) (p : PE) (o : Oper) : Prop where
 anc1 : ∀ x ∈ p.anc, x ∈ dirs o ∨ ∃ q ∈ a, q.j ∈ dirs o ∧ x ∈ q.anc
 anc2 : ∀ x ∈ p.anc, ∃ q ∈ a, q.j = x
 us : ∀ t ∈ p.us, ∀ q ∈ plan, ∀ o', all[q.j]? = some o' → o'.dst = some t → q.j ∈ p.anc
 ne : ∀ q ∈ a, q.j ≠ p.j
 tr : ∀ q ∈ a, q.j ∈ p.anc → ∀ x ∈ q.anc, x ∈ p.anc
 ch : ∀ q ∈ a, 3 ≤ p.k → q.j ∈ p.anc ∨ q.k = 0 ∨ (q.k = 1 ∧ (q.j, q.us) ∈ p.re)
 rd : ∀ q ∈ a, p.k = 1 → 3 ≤ q.k → q.j ∈ p.anc
theorem okPE_ok {plan a : List PE} {p : PE} {o : Oper} (h : okPE all plan a p o = true) : PEok all plan a p o := by
 unfold okPE at h
 simp only [Bool.and_eq_true] at h
 obtain ⟨⟨h1, h2⟩, h3⟩ := h
 rw [List.all_eq_true] at h1 h2 h3
 refine ⟨fun x hx => ?_, fun x hx => ?_, fun t ht q hq o' ho' hd => ?_, fun q hq => ?_, fun q hq hj x hx => ?_, fun q hq hk => ?_, fun q hq hk hk' => ?_⟩
 · have := h1 x hx
   simp only [Bool.and_eq_true, Bool.or_eq_true, hasN_iff, List.any_eq_true] at this
   rcases this.1 with h | ⟨q, hq, h⟩
   · exact .inl h
   · exact .inr ⟨q, hq, h.1, h.2⟩
 · have := h1 x hx
   simp only [Bool.and_eq_true, List.any_eq_true] at this
   obtain ⟨q, hq, e⟩ := this.2
   exact ⟨q, hq, Nat.eq_of_beq_eq_true e⟩
 · have := List.all_eq_true.1 (h2 t ht) q hq
   rw [dstIs_of ho' hd] at this
   simpa [hasN_iff] using this
 · have := h3 q hq
   simp only [Bool.and_eq_true] at this
   intro e
   have h4 := this.1.1.1
   rw [e] at h4
   simp at h4
 · have := h3 q hq
   simp only [Bool.and_eq_true, Bool.or_eq_true] at this
   rcases this.1.1.2 with h4 | h4
   · rw [hasN_iff.2 hj] at h4; cases h4
   · exact hasN_iff.1 (List.all_eq_true.1 h4 x hx)
 · have := h3 q hq
   simp only [Bool.and_eq_true, Bool.or_eq_true] at this
   rcases this.1.2 with ((h4 | h4) | h4 | h4)
   · have := Nat.le_of_ble_eq_true h4
     omega
   · exact .inl (hasN_iff.1 h4)
   · exact .inr (.inl (Nat.eq_of_beq_eq_true h4))
   · refine .inr (.inr ⟨Nat.eq_of_beq_eq_true h4.1, ?_⟩)
     obtain ⟨x, hx, h5⟩ := List.any_eq_true.1 h4.2
     simp only [Bool.and_eq_true] at h5
     rw [← Nat.eq_of_beq_eq_true h5.1, ← eqNs_ok h5.2]
     exact hx
 · have := h3 q hq
   simp only [Bool.and_eq_true, Bool.or_eq_true] at this
   rcases this.2 with ((h4 | h4) | h4)
   · rw [hk] at h4; simp at h4
   · have := Nat.le_of_ble_eq_true h4
     omega
   · exact hasN_iff.1 h4
theorem okPEs_ok {plan : List PE} : ∀ {l bef : List PE}, okPEs all plan bef l = true → ∀ a p b, l = a ++ p :: b → ∃ o, all[p.j]? = some o ∧ PEok all plan (bef ++ a) p o
 | [], bef, h, a, p, b, e => by cases a <;> cases e
 | x :: l, bef, h, a, p, b, e => by
   simp only [okPEs] at h
   split at h
   · rename_i o ho
     simp only [Bool.and_eq_true] at h
     cases a with
     | nil =>
       cases e
       exact ⟨o, by rw [← nth_eq]; exact ho, by simpa using okPE_ok h.1⟩
     | cons y a =>
       cases e
       obtain ⟨o', h1, h2⟩ := okPEs_ok h.2 a p b rfl
       exact ⟨o', h1, by simpa using h2⟩
   · cases h
theorem okDst_ok {plan : List PE} (h : okDst all plan = true) {p q : PE} (hp : p ∈ plan) (hq : q ∈ plan) {o o' : Oper} {t : Nat} (ho : all[p.j]? = some o) (hd : o.dst = some t) (ho' : all[q.j]? = some o') (hd' : o'.dst = some t) : p.j = q.j := by
 unfold okDst at h
 have h1 := List.all_eq_true.1 h p hp
 rw [nth_eq, ho] at h1
 simp only [hd] at h1
 have h2 := List.all_eq_true.1 h1 q hq
 rw [dstIs_of ho' hd'] at h2
 simpa using h2
def Cl (all : List Oper) (s : Nat → Bool) : Prop := ∀ k o, s k = true → all[k]? = some o → ∀ x ∈ dirs o, s x = true
theorem anc_in {plan : List PE} (hp : ∀ a p b, plan = a ++ p :: b → ∃ o, all[p.j]? = some o ∧ PEok all plan a p o) {s : Nat → Bool} (hs : Cl all s) : ∀ (m : Nat) (a : List PE) (p : PE) (b : List PE) (o : Oper), a.length = m → plan = a ++ p :: b → all[p.j]? = some o → (∀ x ∈ dirs o, s x = true) → ∀ x ∈ p.anc, s x = true := by
 intro m
 induction m using Nat.strongRecOn with
 | _ m ih =>
   intro a p b o hm e ho hd x hx
   obtain ⟨o', ho', hok⟩ := hp a p b e
   rw [ho] at ho'; cases ho'
   rcases hok.anc1 x hx with h | ⟨q, hq, h1, h2⟩
   · exact hd x h
   · obtain ⟨a1, a2, ea⟩ := List.append_of_mem hq
     have e2 : plan = a1 ++ q :: (a2 ++ p :: b) := by rw [e, ea]; simp
     obtain ⟨oq, hoq, _⟩ := hp a1 q _ e2
     exact ih a1.length (by rw [← hm, ea]; simp) a1 q _ oq rfl e2 hoq (hs q.j oq (hd _ h1) hoq) x h2
theorem mem_dirs {o : Oper} {x : Nat} : x ∈ dirs o ↔ ∃ e ∈ o.after, Region.binds .any e = true ∧ e.on = x := by
 unfold dirs
 rw [List.mem_map]
 constructor
 · rintro ⟨e, he, rfl⟩
   rw [List.mem_filter] at he
   exact ⟨e, by simpa using he.1, he.2, rfl⟩
 · rintro ⟨e, he, hb, rfl⟩
   exact ⟨e, List.mem_filter.2 ⟨by simpa using he, hb⟩, rfl⟩
end
end
end Go.Eng.Ev
namespace Go.Eng.Ev
noncomputable section
open Go Go.Eng
theorem setS_mono {s : Nat → Bool} {j k : Nat} (h : s k = true) : setS s j k = true := by
 by_cases e : k = j
 · subst e; exact setS_same ..
 · rw [setS_ne _ e]; exact h
theorem setS_false {s : Nat → Bool} {j k : Nat} (h : setS s j k = false) : s k = false ∧ k ≠ j := by
 by_cases e : k = j
 · subst e; rw [setS_same] at h; cases h
 · rw [setS_ne _ e] at h; exact ⟨h, e⟩
theorem setS_true {s : Nat → Bool} {j k : Nat} (h : setS s j k = true) : k = j ∨ (k ≠ j ∧ s k = true) := by
 by_cases e : k = j
 · exact .inl e
 · rw [setS_ne _ e] at h; exact .inr ⟨e, h⟩
section
variable {Γ : Tab → Plans → Code → Prop} {P : Program} {T : Tab} {N G : Nat} {cal : Callee} {all : List Oper} {lim : Nat} {R : Nat → Option VV} {W : Nat → Option (Nat × VO)} {plan : List PE} {ρ0 : Loc} {D0 : Dom} {n0 : Nat} {σ0 σfin : DS}
def DM (D0 : Dom) (lim : Nat) (W : Nat → Option (Nat × VO)) (pre : List PE) (σ : DS) : Dom := fun b => D0 b ∨ (lim ≤ b ∧ b < σ.n) ∨ ∃ q ∈ pre, ∃ vo, W q.j = some (b, vo)
def DA (D0 : Dom) (lim : Nat) (W : Nat → Option (Nat × VO)) (plan pre : List PE) (σ : DS) (p : PE) : Dom := fun b => DM D0 lim W pre σ b ∨ ∃ q ∈ plan, q.j ∈ p.anc ∧ ∃ vo, W q.j = some (b, vo)
def DB (D0 : Dom) (lim : Nat) (W : Nat → Option (Nat × VO)) (plan pre : List PE) (σ : DS) (p : PE) : Dom := fun b => DA D0 lim W plan pre σ p b ∨ ∃ vo, W p.j = some (b, vo)
def DD (D0 : Dom) (lim : Nat) (W : Nat → Option (Nat × VO)) (plan pre : List PE) (σ : DS) (s : Nat → Bool) : Dom := fun b => DM D0 lim W pre σ b ∨ ∃ q ∈ plan, s q.j = true ∧ ∃ vo, W q.j = some (b, vo)
def SS (W : Nat → Option (Nat × VO)) (suf : List PE) (σ : DS) (s : Nat → Bool) : Nat → Bool → VO → Prop := fun k fz vo => get k σ.h = some (fz, vo) ∨ (fz = false ∧ ∃ q ∈ suf, s q.j = true ∧ W q.j = some (k, vo))
def Ready (T : Tab) (N G : Nat) (all : List Oper) (R : Nat → Option VV) (p : PE) (σ : DS) (o : Oper) : Prop :=
 (gokV N (restr σ.f p.us) all o = some true ∧ ∃ v, evVal T N G (restr σ.f p.us) σ.h o.op = some v ∧ ∀ w, R p.j = some w → w = v) ∨ gokV N (restr σ.f p.us) all o = some false
structure Ctx (Γ : Tab → Plans → Code → Prop) (P : Program) (T : Tab) (N G : Nat) (cal : Callee) (all : List Oper) (lim : Nat) (R : Nat → Option VV) (W : Nat → Option (Nat × VO)) (plan : List PE) (ρ0 : Loc) (D0 : Dom) (n0 : Nat) (σ0 σfin : DS) : Prop where
 hT : T.ok P
 hcal : CalOk P Γ G cal
 hp : ∀ a p b, plan = a ++ p :: b → ∃ o, all[p.j]? = some o ∧ PEok all plan a p o
 hdst : okDst all plan = true
 ht : Trc T N G cal all lim R W plan σ0 σfin
 hG : Glob Γ ρ0 D0 G
 hD : Fresh D0 n0
 hn : n0 ≤ lim
 r0 : σ0.r = n0
structure HI (T : Tab) (N G : Nat) (cal : Callee) (all : List Oper) (lim : Nat) (R : Nat → Option VV) (W : Nat → Option (Nat × VO)) (plan : List PE) (ρ0 : Loc) (D0 : Dom) (σ0 σfin : DS)
 (pre suf : List PE) (σ : DS) (ρ : Loc) (s : Nat → Bool) (g : Fr) (i : Imm) (L : SH) : Prop where
 pl : plan = pre ++ suf
 t1 : Trc T N G cal all lim R W pre σ0 σ
 t2 : Trc T N G cal all lim R W suf σ σfin
 hh : σ.hb = σ.h
 nn : lim ≤ σ.n
 cl : Cl all s
 c1 : ∀ q ∈ pre, 3 ≤ q.k → s q.j = true
 c2 : ∀ q ∈ suf, 3 ≤ q.k → s q.j = false
 c3 : ∀ q ∈ pre, q.k = 2 → s q.j = true
 c4 : ∀ q ∈ pre, q.k = 1 → s q.j = false → ∀ o, all[q.j]? = some o → Ready T N G all R q σ o
 ex : Ext D0 ρ0 ρ
 sa : ∀ q ∈ plan, s q.j = true → ∀ o t v, all[q.j]? = some o → o.dst = some t → R q.j = some v → v.lt (DB D0 lim W plan pre σ q) ∧ g t = toV ρ v
 sb : ∀ t v, (∀ q ∈ plan, ∀ o : Oper, all[q.j]? = some o → o.dst ≠ some t) → get t σ0.f = some v → v.lt D0 ∧ g t = toV ρ v
 la : LayP ρ (DD D0 lim W plan pre σ s) (SS W suf σ s) i L
 lk : ∀ k fz vo, get k σ.h = some (fz, vo) → DM D0 lim W pre σ k ∧ vo.lt (DM D0 lim W pre σ)
 lw : ∀ q ∈ plan, s q.j = true → ∀ k vo, W q.j = some (k, vo) → vo.lt (DB D0 lim W plan pre σ q)
theorem Ctx.inj (C : Ctx Γ P T N G cal all lim R W plan ρ0 D0 n0 σ0 σfin) {p q : PE} (hp : p ∈ plan) (hq : q ∈ plan) (e : p.j = q.j) : p = q := by
 obtain ⟨a, b, hab⟩ := List.append_of_mem hp
 have h1 := hq
 rw [hab, List.mem_append, List.mem_cons] at h1
 rcases h1 with h1 | h1 | h1
 · obtain ⟨_, _, k⟩ := C.hp a p b hab
   exact absurd e.symm (k.ne q h1)
 · exact h1.symm
 · obtain ⟨b1, b2, hb⟩ := List.append_of_mem h1
   obtain ⟨_, _, k⟩ := C.hp (a ++ p :: b1) q b2 (by rw [hab, hb]; simp)
   exact absurd e (k.ne p (by simp))
section
variable {pre suf : List PE} {σ : DS} {ρ : Loc} {s : Nat → Bool} {g : Fr} {i : Imm} {L : SH}
variable (C : Ctx Γ P T N G cal all lim R W plan ρ0 D0 n0 σ0 σfin) (H : HI T N G cal all lim R W plan ρ0 D0 σ0 σfin pre suf σ ρ s g i L)
include C H
theorem HI.anc {q : PE} (hq : q ∈ plan) {o : Oper} (ho : all[q.j]? = some o) (hd : ∀ x ∈ dirs o, s x = true) : ∀ x ∈ q.anc, s x = true := by
 obtain ⟨a, b, hab⟩ := List.append_of_mem hq
 exact anc_in C.hp H.cl a.length a q b o rfl hab ho hd
theorem HI.ancS {q : PE} (hq : q ∈ plan) (hs : s q.j = true) : ∀ x ∈ q.anc, s x = true := by
 obtain ⟨a, b, hab⟩ := List.append_of_mem hq
 obtain ⟨o, ho, _⟩ := C.hp a q b hab
 exact H.anc C hq ho (H.cl q.j o hs ho)
theorem HI.DA_le {p : PE} (ha : ∀ x ∈ p.anc, s x = true) : (DA D0 lim W plan pre σ p).le (DD D0 lim W plan pre σ s) := fun b hb => by
 rcases hb with hb | ⟨q, hq, hj, vo, hw⟩
 · exact .inl hb
 · exact .inr ⟨q, hq, ha _ hj, vo, hw⟩
theorem HI.DB_le {q : PE} (hq : q ∈ plan) (hs : s q.j = true) : (DB D0 lim W plan pre σ q).le (DD D0 lim W plan pre σ s) := fun b hb => by
 rcases hb with hb | ⟨vo, hw⟩
 · exact H.DA_le C (H.ancS C hq hs) b hb
 · exact .inr ⟨q, hq, hs, vo, hw⟩
theorem HI.slots {a b a' b' : List PE} {p : PE} (hab : plan = a ++ p :: b) (hs : ∀ x ∈ p.anc, s x = true) {σ' : DS} (hab' : plan = a' ++ b') (ht : Trc T N G cal all lim R W a' σ0 σ') (hin : ∀ q ∈ a, q ∈ a') :
 Slots ρ (DA D0 lim W plan pre σ p) (restr σ'.f p.us) g := by
 obtain ⟨o, ho, hok⟩ := C.hp a p b hab
 intro t v hv
 obtain ⟨hu, hg⟩ := restr_sub hv
 have ma : ∀ q ∈ a, q ∈ plan := fun q hq => by rw [hab]; simp [hq]
 rcases ht.frame hg with ⟨q, hq, oq, h1, h2, h3⟩ | ⟨h1, h2⟩
 · have hqp : q ∈ plan := by rw [hab']; simp [hq]
   have hqa := hok.us t hu q hqp oq h1 h2
   obtain ⟨h4, h5⟩ := H.sa q hqp (hs _ hqa) oq t v h1 h2 h3
   refine ⟨VV.lt_mono ?_ v h4, h5⟩
   obtain ⟨q', hq', ej⟩ := hok.anc2 q.j hqa
   have eq := C.inj (ma q' hq') hqp ej
   subst eq
   rintro x (hx | ⟨vo, hw⟩)
   · rcases hx with hx | ⟨y, hy, hj, vo, hw⟩
     · exact .inl hx
     · exact .inr ⟨y, hy, hok.tr q' hq' hqa _ hj, vo, hw⟩
   · exact .inr ⟨q', hqp, hqa, vo, hw⟩
 · have hno : ∀ q ∈ plan, ∀ o' : Oper, all[q.j]? = some o' → o'.dst ≠ some t := fun q0 hq0 o' hk hd => by
    have hka := hok.us t hu q0 hq0 o' hk hd
    obtain ⟨q, hq, e⟩ := hok.anc2 q0.j hka
    exact h2 q (hin q hq) o' (by rw [e]; exact hk) hd
   obtain ⟨h4, h5⟩ := H.sb t v hno h1
   exact ⟨VV.lt_mono (fun x hx => .inl (.inl hx)) v h4, h5⟩
theorem HI.globA {p : PE} : Glob Γ ρ (DA D0 lim W plan pre σ p) G := C.hG.ext H.ex fun b hb => .inl (.inl hb)
theorem HI.step {p : PE} (hpp : p ∈ plan) (hk : p.k ≤ 2) (hsj : s p.j = false) {o : Oper} (ho : all[p.j]? = some o) (hd : ∀ x ∈ dirs o, s x = true) {ρ' : Loc} {i' : Imm} {L' : SH} {u : Value}
 (hx : Ext (DD D0 lim W plan pre σ s) ρ ρ') (hl : LayP ρ' (DD D0 lim W plan pre σ (setS s p.j)) (SS W suf σ (setS s p.j)) i' L') (hv : ∀ v, R p.j = some v → v.lt (DB D0 lim W plan pre σ p) ∧ u = toV ρ' v) (hw : ∀ k vo, W p.j = some (k, vo) → vo.lt (DB D0 lim W plan pre σ p)) :
 HI T N G cal all lim R W plan ρ0 D0 σ0 σfin pre suf σ ρ' (setS s p.j) (updO g o.dst u) i' L' := by
 refine ⟨H.pl, H.t1, H.t2, H.hh, H.nn, fun k o' hs ho' x hx' => ?_, fun q hq h => setS_mono (H.c1 q hq h), fun q hq h => ?_, fun q hq h => setS_mono (H.c3 q hq h), fun q hq h hs => H.c4 q hq h (setS_false hs).1,
  H.ex.trans hx fun b hb => .inl (.inl hb), fun q hq hs o' t v ho' hd' hR => ?_, fun t v hno hg => ?_, hl, H.lk, fun q hq hs k vo h => ?_⟩
 · rcases setS_true hs with rfl | ⟨_, hs⟩
   · rw [ho] at ho'; cases ho'
     exact setS_mono (hd x hx')
   · exact setS_mono (H.cl k o' hs ho' x hx')
 · have hne : q.j ≠ p.j := fun e => by
    have := C.inj (by rw [H.pl]; simp [hq]) hpp e
    subst this
    omega
   rw [setS_ne _ hne]; exact H.c2 q hq h
 · rcases setS_true hs with e | ⟨hne, hs⟩
   · have := C.inj hq hpp e
     subst this
     rw [ho] at ho'; cases ho'
     obtain ⟨h1, h2⟩ := hv v hR
     refine ⟨h1, ?_⟩
     rw [hd', ← h2]; exact upd_same ..
   · obtain ⟨h1, h2⟩ := H.sa q hq hs o' t v ho' hd' hR
     refine ⟨h1, ?_⟩
     have hdn : o.dst ≠ some t := fun e => hne (okDst_ok C.hdst hq hpp ho' hd' ho e)
     rw [toV_ext hx v (VV.lt_mono (H.DB_le C hq hs) v h1), ← h2]
     cases hdo : o.dst with
     | none => rfl
     | some d => exact upd_ne _ _ fun e => hdn (by rw [hdo, e])
 · obtain ⟨h1, h2⟩ := H.sb t v hno hg
   refine ⟨h1, ?_⟩
   rw [toV_ext hx v (VV.lt_mono (fun b hb => .inl (.inl hb)) v h1), ← h2]
   cases hdo : o.dst with
   | none => rfl
   | some d => exact upd_ne _ _ fun e => hno p hpp o ho (by rw [hdo, e])
 · rcases setS_true hs with e | ⟨_, hs⟩
   · have := C.inj hq hpp e
     subst this
     exact hw k vo h
   · exact H.lw q hq hs k vo h
theorem HI.keepL {p : PE} (hpp : p ∈ plan) (hw : W p.j = none) : LayP ρ (DD D0 lim W plan pre σ (setS s p.j)) (SS W suf σ (setS s p.j)) i L := by
 refine (H.la.mono ?_).sub ?_
 · rintro b (hb | ⟨q, hq, hs, vo, h⟩)
   · exact .inl hb
   · exact .inr ⟨q, hq, setS_mono hs, vo, h⟩
 · rintro k fz vo (h | ⟨e, q, hq, hs, h⟩)
   · exact .inl h
   · refine .inr ⟨e, q, hq, ?_, h⟩
     rcases setS_true hs with ej | ⟨_, hs⟩
     · rw [ej, hw] at h; cases h
     · exact hs
end
end
end
end Go.Eng.Ev
namespace Go.Eng.Ev
noncomputable section
open Go Go.Eng
section
variable {Γ : Tab → Plans → Code → Prop} {P : Program} {T : Tab} {N G : Nat} {cal : Callee} {all : List Oper} {lim : Nat} {R : Nat → Option VV} {W : Nat → Option (Nat × VO)} {plan : List PE} {ρ0 : Loc} {D0 : Dom} {n0 : Nat} {σ0 σfin : DS}
def HH (T : Tab) (N G : Nat) (cal : Callee) (all : List Oper) (lim : Nat) (R : Nat → Option VV) (W : Nat → Option (Nat × VO)) (plan : List PE) (ρ0 : Loc) (D0 : Dom) (σ0 σfin : DS) (s : Nat → Bool) (g : Fr) (i : Imm) (L : SH) : Prop :=
 ∃ pre suf σ ρ, HI T N G cal all lim R W plan ρ0 D0 σ0 σfin pre suf σ ρ s g i L
section
variable {pre suf : List PE} {σ : DS} {ρ : Loc} {s : Nat → Bool} {g : Fr} {i : Imm} {L : SH}
variable (C : Ctx Γ P T N G cal all lim R W plan ρ0 D0 n0 σ0 σfin) (H : HI T N G cal all lim R W plan ρ0 D0 σ0 σfin pre suf σ ρ s g i L)
include C H
def Goal (P : Program) (T : Tab) (N G : Nat) (cal : Callee) (all : List Oper) (lim : Nat) (R : Nat → Option VV) (W : Nat → Option (Nat × VO)) (plan : List PE) (ρ0 : Loc) (D0 : Dom) (σ0 σfin : DS) (s : Nat → Bool) (g : Fr) (i : Imm) (L : SH) (j : Nat) (o : Oper) : Prop :=
 (gok N g all o = true ∧ OpS P N o g i L fun v i'' L'' => HH T N G cal all lim R W plan ρ0 D0 σ0 σfin (setS s j) (updO g o.dst v) i'' L'') ∨ (gok N g all o = false ∧ HH T N G cal all lim R W plan ρ0 D0 σ0 σfin (setS s j) (updO g o.dst undef) i L)
omit C in
theorem HI.base : Lay ρ (DM D0 lim W pre σ) σ.h i L := by
 have := H.la.sub (S' := fun k fz vo => get k σ.h = some (fz, vo)) fun k fz vo h => .inl h
 exact ⟨fun k fz vo hk => ⟨(H.lk k fz vo hk).1, (H.lk k fz vo hk).2, (this.ok k fz vo hk).2.2⟩, this.inj, this.frm⟩
omit C in
theorem HI.empty {D : Dom} : Lay ρ D .lf i L :=
 { ok := fun k fz vo hk => by rw [get_lf] at hk; cases hk
   inj := fun k k' vo vo' hk => by rw [get_lf] at hk; cases hk
   frm := fun p hp => ⟨(H.la.frm p hp).1, fun k vo hk => by rw [get_lf] at hk; cases hk⟩ }
theorem HI.fresh {p : PE} (hp : p ∈ plan) (hs : s p.j = false) {b : Nat} {vo : VO} (hw : W p.j = some (b, vo)) : ¬ DD D0 lim W plan pre σ s b := by
 obtain ⟨h1, h2⟩ := C.ht.names
 obtain ⟨h3, _, h5, h6⟩ := h2 p hp b vo hw
 rintro ((h | h | ⟨q, hq, vo', h⟩) | ⟨q, hq, hsq, vo', h⟩)
 · have := C.hD b h
   have := C.r0
   omega
 · omega
 · have e := C.ht.namesInj q (by rw [H.pl]; simp [hq]) p hp b vo' vo h hw
   have e' := C.inj (by rw [H.pl]; simp [hq]) hp e
   subst e'
   rw [H.c3 q hq h6] at hs; cases hs
 · have e := C.ht.namesInj q hq p hp b vo' vo h hw
   rw [e, hs] at hsq; cases hsq
theorem HI.value {p : PE} (hpp : p ∈ plan) (hk : p.k ≤ 1) (hsj : s p.j = false) {o : Oper} (ho : all[p.j]? = some o) (hd : ∀ x ∈ dirs o, s x = true) {f : Tr VV} (hS : Slots ρ (DA D0 lim W plan pre σ p) f g) {b : Bool} (hgk : gokV N f all o = some b)
 (hb : b = true → ∃ v, (evVal T N G f .lf o.op = some v ∨ evVal T N G f σ.h o.op = some v) ∧ ∀ w, R p.j = some w → w = v) (hb' : b = false → R p.j = some (.tup [])) : Goal P T N G cal all lim R W plan ρ0 D0 σ0 σfin s g i L p.j o := by
 have hg := gokV_ok hS hgk
 have hw : W p.j = none := by
  cases hwp : W p.j with
  | none => rfl
  | some x =>
    have := (C.ht.names.2 p hpp x.1 x.2 hwp).2.2.2
    omega
 cases b with
 | false =>
   refine .inr ⟨hg, pre, suf, σ, ρ, H.step C hpp (by omega) hsj ho hd (Ext.refl _ _) (H.keepL C hpp hw) (fun v hv => ?_) fun k vo h => ?_⟩
   · rw [hb' rfl] at hv; cases hv; simp [VV.lt, VV.lts, toV, toVs, undef]
   · rw [hw] at h; cases h
 | true =>
   obtain ⟨v, hv, hR⟩ := hb rfl
   have key : v.lt (DA D0 lim W plan pre σ p) ∧ LV P N g i L o (toV ρ v) := by
    rcases hv with hv | hv
    · exact evVal_ok C.hT hS (H.globA C) H.empty hv
    · exact evVal_ok C.hT hS (H.globA C) (H.base.mono fun b hb => .inl hb) hv
   obtain ⟨h1, h2⟩ := key
   unfold LV at h2
   refine .inl ⟨hg, OpS.value (fun w hw => h2 w hw) ⟨pre, suf, σ, ρ, H.step C hpp (by omega) hsj ho hd (Ext.refl _ _) (H.keepL C hpp hw) (fun w hw' => ?_) fun k vo h => ?_⟩⟩
   · rw [hR w hw']
     exact ⟨VV.lt_mono (fun b hb => .inl hb) v h1, rfl⟩
   · rw [hw] at h; cases h
theorem HI.split {a b : List PE} {p : PE} (hab : plan = a ++ p :: b) : ∃ (σp : DS) (o : Oper) (q : SR), Trc T N G cal all lim R W a σ0 σp ∧ all[p.j]? = some o ∧ stepR T N G cal all lim p o (restr σp.f p.us) σp = some q ∧ R p.j = q.v ∧ W p.j = q.w := by
 have := C.ht
 rw [hab] at this
 obtain ⟨σp, h1, h2⟩ := this.split
 cases h2 with
 | cons ho hq hre hv hw t => exact ⟨σp, _, _, h1, ho, hq, hv, hw⟩
theorem HI.splitS {a b : List PE} {p : PE} (hab : suf = a ++ p :: b) : ∃ (σp : DS) (o : Oper) (q : SR), Trc T N G cal all lim R W a σ σp ∧ Trc T N G cal all lim R W (pre ++ a) σ0 σp ∧ all[p.j]? = some o ∧ stepR T N G cal all lim p o (restr σp.f p.us) σp = some q ∧ R p.j = q.v ∧ W p.j = q.w ∧
 p.re.all (reOk T N G all (aft o σp.f q).f q.hb) = true ∧ Trc T N G cal all lim R W b (aft o σp.f q) σfin := by
 have := H.t2
 rw [hab] at this
 obtain ⟨σp, h1, h2⟩ := this.split
 cases h2 with
 | cons ho hq hre hv hw t => exact ⟨σp, _, _, h1, H.t1.app h1, ho, hq, hv, hw, hre, t⟩
theorem HI.kind0 {p : PE} (hpp : p ∈ plan) (hk : p.k = 0) (hsj : s p.j = false) {o : Oper} (ho : all[p.j]? = some o) (hd : ∀ x ∈ dirs o, s x = true) : Goal P T N G cal all lim R W plan ρ0 D0 σ0 σfin s g i L p.j o := by
 obtain ⟨a, b, hab⟩ := List.append_of_mem hpp
 obtain ⟨σp, o', q, h1, h2, h3, h4, h5⟩ := H.split C hab
 rw [ho] at h2; cases h2
 have hS := H.slots C hab (H.anc C hpp ho hd) (a' := a) (b' := p :: b) hab h1 fun q hq => hq
 unfold stepR at h3
 split at h3
 · rename_i hg
   refine H.value C hpp (by omega) hsj ho hd hS hg (fun e => by cases e) fun _ => ?_
   rw [hk] at h3
   cases h3
   exact h4
 · rename_i hg
   refine H.value C hpp (by omega) hsj ho hd hS hg (fun _ => ?_) fun e => by cases e
   rw [hk] at h3
   simp only at h3
   split at h3
   · rename_i v hv
     cases h3
     exact ⟨v, .inl hv, fun w hw => by rw [h4] at hw; exact (Option.some.inj hw).symm⟩
   · cases h3
 · cases h3
theorem HI.kind1 {p : PE} (hpp : p ∈ plan) (hk : p.k = 1) (hsj : s p.j = false) {o : Oper} (ho : all[p.j]? = some o) (hd : ∀ x ∈ dirs o, s x = true) : Goal P T N G cal all lim R W plan ρ0 D0 σ0 σfin s g i L p.j o := by
 have hanc := H.anc C hpp ho hd
 have hmem := hpp
 rw [H.pl, List.mem_append] at hmem
 rcases hmem with hm | hm
 · obtain ⟨a, b, hab⟩ := List.append_of_mem hm
   have hab' : plan = a ++ p :: (b ++ suf) := by rw [H.pl, hab]; simp
   obtain ⟨σp, o', q, h1, h2, h3, h4, h5⟩ := H.split C hab'
   rw [ho] at h2; cases h2
   have hS' := H.slots C hab' hanc (a' := a) (b' := p :: (b ++ suf)) hab' h1 fun q hq => hq
   have hS := H.slots C hab' hanc (a' := pre) (b' := suf) H.pl H.t1 fun q hq => by rw [hab]; simp [hq]
   rcases H.c4 p hm hk hsj o ho with ⟨k1, v, k2, k3⟩ | k1
   · exact H.value C hpp (by omega) hsj ho hd hS k1 (fun _ => ⟨v, .inr k2, k3⟩) fun e => by cases e
   · refine H.value C hpp (by omega) hsj ho hd hS k1 (fun e => by cases e) fun _ => ?_
     have hf := gokV_ok hS k1
     unfold stepR at h3
     split at h3
     · rw [hk] at h3
       cases h3
       exact h4
     · rename_i hg
       rw [gokV_ok hS' hg] at hf; cases hf
     · cases h3
 · obtain ⟨a, b, hab⟩ := List.append_of_mem hm
   have hab' : plan = (pre ++ a) ++ p :: b := by rw [H.pl, hab]; simp
   obtain ⟨σp, o', q, h1, h1', h2, h3, h4, h5, _, _⟩ := H.splitS C hab
   rw [ho] at h2; cases h2
   have hS := H.slots C hab' hanc (a' := pre ++ a) (b' := p :: b) hab' h1' fun q hq => hq
   obtain ⟨o2, ho2, hok⟩ := C.hp _ p _ hab'
   have hlow : ∀ q ∈ a, q.k ≤ 2 := fun q hq => by
    rcases Nat.lt_or_ge 2 q.k with h | h
    · have h6 := hanc _ (hok.rd q (by simp [hq]) hk h)
      rw [H.c2 q (by rw [hab]; simp [hq]) h] at h6; cases h6
    · exact h
   obtain ⟨k1, _, _⟩ := h1.low hlow
   unfold stepR at h3
   split at h3
   · rename_i hg
     refine H.value C hpp (by omega) hsj ho hd hS hg (fun e => by cases e) fun _ => ?_
     rw [hk] at h3
     cases h3
     exact h4
   · rename_i hg
     refine H.value C hpp (by omega) hsj ho hd hS hg (fun _ => ?_) fun e => by cases e
     rw [hk] at h3
     simp only at h3
     split at h3
     · rename_i v hv
       cases h3
       exact ⟨v, .inr (by rw [← H.hh, ← k1]; exact hv), fun w hw => by rw [h4] at hw; exact (Option.some.inj hw).symm⟩
     · cases h3
   · cases h3
theorem HI.kind2 {p : PE} (hpp : p ∈ plan) (hk : p.k = 2) (hsj : s p.j = false) {o : Oper} (ho : all[p.j]? = some o) (hd : ∀ x ∈ dirs o, s x = true) : Goal P T N G cal all lim R W plan ρ0 D0 σ0 σfin s g i L p.j o := by
 have hanc := H.anc C hpp ho hd
 have hmem := hpp
 rw [H.pl, List.mem_append] at hmem
 rcases hmem with hm | hm
 · rw [H.c3 p hm hk] at hsj; cases hsj
 · obtain ⟨a, b, hab⟩ := List.append_of_mem hm
   have hab' : plan = (pre ++ a) ++ p :: b := by rw [H.pl, hab]; simp
   obtain ⟨σp, o', q, h1, h1', h2, h3, h4, h5, _, _⟩ := H.splitS C hab
   rw [ho] at h2; cases h2
   have hS := H.slots C hab' hanc (a' := pre ++ a) (b' := p :: b) hab' h1' fun q hq => hq
   unfold stepR at h3
   split at h3
   · rename_i hg
     rw [hk] at h3
     cases h3
     refine .inr ⟨gokV_ok hS hg, pre, suf, σ, ρ, H.step C hpp (by omega) hsj ho hd (Ext.refl _ _) (H.keepL C hpp h5) (fun v hv => ?_) fun k vo h => ?_⟩
     · rw [h4] at hv; cases hv; simp [VV.lt, VV.lts, toV, toVs, undef]
     · rw [h5] at h; cases h
   · rename_i hg
     rw [hk] at h3
     simp only at h3
     cases hbl : Nat.blt σp.r lim with
     | false => rw [hbl] at h3; cases h3
     | true =>
       rw [hbl] at h3
       simp only [cond_true] at h3
       split at h3
       · rename_i v vo hv
         cases h3
         have hfr := H.fresh C hpp hsj h5
         have hle := H.DA_le C hanc
         have hnew := evNew_ok (i := i) (L := L) C.hT hS (H.globA C) (fun h => hfr (hle _ h)) hv
         refine .inl ⟨gokV_ok hS hg, OpS.state hnew ?_⟩
         rintro u i' L' w _ hst ⟨rfl, hvl, hvo, bb, ob, c, rfl, hu, hob⟩
         refine ⟨i', _, Imm.le.refl i', hst, pre, suf, σ, ρ.add σp.r bb c, H.step C hpp (by omega) hsj ho hd (ρ.add_ext hfr bb c) ?_ (fun v' hv' => ?_) fun k vo' h => ?_⟩
         · refine ((H.la.push hfr hst.nodup (VO.lt_mono (fun x hx => hx.imp (hle x) id) hvo) hob).mono ?_).sub ?_
           · rintro x ((hx | ⟨y, hy, hsy, vo', h⟩) | rfl)
             · exact .inl hx
             · exact .inr ⟨y, hy, setS_mono hsy, vo', h⟩
             · exact .inr ⟨p, hpp, setS_same .., vo, h5⟩
           · rintro k fz vo' (h | ⟨e, y, hy, hsy, h⟩)
             · refine .inr ⟨?_, .inl h⟩
               rintro rfl
               exact hfr (.inl (H.lk _ _ _ h).1)
             · rcases setS_true hsy with ej | ⟨hne, hsy⟩
               · rw [ej, h5] at h
                 cases h
                 exact .inl ⟨rfl, e, rfl⟩
               · refine .inr ⟨?_, .inr ⟨e, y, hy, hsy, h⟩⟩
                 rintro rfl
                 exact hfr (.inr ⟨y, by rw [H.pl]; simp [hy], hsy, vo', h⟩)
         · rw [h4] at hv'
           cases hv'
           refine ⟨VV.lt_mono ?_ _ hvl, hu⟩
           rintro x (hx | rfl)
           · exact .inl hx
           · exact .inr ⟨vo, h5⟩
         · rw [h5] at h
           cases h
           refine VO.lt_mono ?_ hvo
           rintro x (hx | rfl)
           · exact .inl hx
           · exact .inr ⟨vo, h5⟩
       · cases h3
   · cases h3
end
end
end
end Go.Eng.Ev
namespace Go.Eng.Ev
noncomputable section
open Go Go.Eng
section
variable {Γ : Tab → Plans → Code → Prop} {P : Program} {T : Tab} {N G : Nat} {cal : Callee} {all : List Oper} {lim : Nat} {R : Nat → Option VV} {W : Nat → Option (Nat × VO)} {plan : List PE} {ρ0 : Loc} {D0 : Dom} {n0 : Nat} {σ0 σfin : DS}
section
variable {pre suf : List PE} {σ : DS} {ρ : Loc} {s : Nat → Bool} {g : Fr} {i : Imm} {L : SH}
variable (C : Ctx Γ P T N G cal all lim R W plan ρ0 D0 n0 σ0 σfin) (H : HI T N G cal all lim R W plan ρ0 D0 σ0 σfin pre suf σ ρ s g i L)
include C H
theorem HI.lowA {a b : List PE} {p : PE} {o : Oper} (hab : suf = a ++ p :: b) (hok : PEok all plan (pre ++ a) p o) (hanc : ∀ x ∈ p.anc, s x = true) (hk : 3 ≤ p.k) : (∀ q ∈ a, q.k ≤ 2) ∧ ∀ q ∈ pre ++ a, q.k = 2 → q.j ∈ p.anc := by
 refine ⟨fun q hq => ?_, fun q hq h2 => ?_⟩
 · rcases Nat.lt_or_ge 2 q.k with h | h
   · rcases hok.ch q (by simp [hq]) hk with h6 | h6 | ⟨h6, _⟩
     · have := H.c2 q (by rw [hab]; simp [hq]) h
       rw [hanc _ h6] at this; cases this
     · omega
     · omega
   · exact h
 · rcases hok.ch q hq hk with h6 | h6 | ⟨h6, _⟩
   · exact h6
   · omega
   · omega
theorem HI.chain {a b : List PE} {p : PE} {o : Oper} {σp : DS} {q : SR} (hab : suf = a ++ p :: b) (hk : 3 ≤ p.k) (hsj : s p.j = false) (ho : all[p.j]? = some o) (hd : ∀ x ∈ dirs o, s x = true)
 (ht : Trc T N G cal all lim R W (pre ++ a) σ0 σp) (hs : stepR T N G cal all lim p o (restr σp.f p.us) σp = some q) (hre : p.re.all (reOk T N G all (aft o σp.f q).f q.hb) = true) (hv : R p.j = q.v) (hw : W p.j = q.w) (htb : Trc T N G cal all lim R W b (aft o σp.f q) σfin)
 (hq : q.hb = q.h) (hqw : q.w = none) (hnn : σ.n ≤ q.n) {ρ' : Loc} {i' : Imm} {L' : SH} {u : Value}
 (hx : Ext (DD D0 lim W plan pre σ s) ρ ρ') (hl : LayP ρ' (DD D0 lim W plan (pre ++ a ++ [p]) (aft o σp.f q) (setS s p.j)) (SS W b (aft o σp.f q) (setS s p.j)) i' L')
 (hlk : ∀ k fz vo, get k q.h = some (fz, vo) → DM D0 lim W (pre ++ a ++ [p]) (aft o σp.f q) k ∧ vo.lt (DM D0 lim W (pre ++ a ++ [p]) (aft o σp.f q)))
 (hval : ∀ v, q.v = some v → v.lt (DB D0 lim W plan (pre ++ a ++ [p]) (aft o σp.f q) p) ∧ u = toV ρ' v) :
 HI T N G cal all lim R W plan ρ0 D0 σ0 σfin (pre ++ a ++ [p]) b (aft o σp.f q) ρ' (setS s p.j) (updO g o.dst u) i' L' := by
 have hpl : plan = (pre ++ a) ++ p :: b := by rw [H.pl, hab]; simp
 have hpp : p ∈ plan := by rw [hpl]; simp
 have hanc := H.anc C hpp ho hd
 obtain ⟨o2, ho2, hok⟩ := C.hp _ p _ hpl
 rw [ho] at ho2; cases ho2
 obtain ⟨hlow, hnew⟩ := H.lowA C hab hok hanc hk
 have hmono : (DM D0 lim W pre σ).le (DM D0 lim W (pre ++ a ++ [p]) (aft o σp.f q)) := fun x hx => by
  rcases hx with hx | hx | ⟨y, hy, h⟩
  · exact .inl hx
  · exact .inr (.inl ⟨hx.1, Nat.lt_of_lt_of_le hx.2 hnn⟩)
  · exact .inr (.inr ⟨y, by simp [hy], h⟩)
 have hmonoB : ∀ y, (DB D0 lim W plan pre σ y).le (DB D0 lim W plan (pre ++ a ++ [p]) (aft o σp.f q) y) := fun y x hx => hx.imp (fun hx => hx.imp (hmono x) id) id
 have hpre : ∀ y ∈ pre ++ a, y.j ≠ p.j := hok.ne
 refine ⟨by rw [hpl]; simp, ht.app (.cons ho hs hre hv hw (.nil _)), htb, hq, Nat.le_trans H.nn hnn, fun k o' hs' ho' x hx' => ?_, fun y hy h => ?_, fun y hy h => ?_, fun y hy h => ?_, fun y hy h1 h2 oy hoy => ?_,
  H.ex.trans hx fun x hx => .inl (.inl hx), fun y hy hsy o' t v ho' hd' hR => ?_, fun t v hno hg => ?_, hl, hlk, fun y hy hsy k vo h => ?_⟩
 · rcases setS_true hs' with rfl | ⟨_, hs'⟩
   · rw [ho] at ho'; cases ho'
     exact setS_mono (hd x hx')
   · exact setS_mono (H.cl k o' hs' ho' x hx')
 · simp only [List.mem_append, List.mem_singleton] at hy
   rcases hy with (hy | hy) | rfl
   · exact setS_mono (H.c1 y hy h)
   · have := hlow y hy; omega
   · exact setS_same ..
 · have hne : y.j ≠ p.j := fun e => by
    have h6 := C.inj (by rw [hpl]; simp [hy]) hpp e
    subst h6
    obtain ⟨b1, b2, hb⟩ := List.append_of_mem hy
    obtain ⟨_, _, k2⟩ := C.hp (pre ++ a ++ y :: b1) y b2 (by rw [hpl, hb]; simp)
    exact k2.ne y (by simp) rfl
   rw [setS_ne _ hne]
   exact H.c2 y (by rw [hab]; simp [hy]) h
 · simp only [List.mem_append, List.mem_singleton] at hy
   rcases hy with hy | rfl
   · exact setS_mono (hanc _ (hnew y (by simpa using hy) h))
   · omega
 · obtain ⟨h3, h4⟩ := setS_false h2
   have hy' : y ∈ pre ++ a := by
    simp only [List.mem_append, List.mem_singleton] at hy ⊢
    rcases hy with hy | rfl
    · exact hy
    · exact absurd rfl h4
   rcases hok.ch y hy' hk with h6 | h6 | ⟨_, h6⟩
   · rw [hanc _ h6] at h3; cases h3
   · omega
   · have h7 := List.all_eq_true.1 hre _ h6
     unfold reOk at h7
     rw [nth_eq, hoy] at h7
     simp only at h7
     split at h7
     · rename_i hg
       refine .inl ⟨hg, ?_⟩
       split at h7
       · rename_i d hdd
         split at h7
         · rename_i v hgv
           split at h7
           · rename_i v' hv'
             have e := eqVV_ok _ _ h7
             subst e
             refine ⟨v', by rw [hq] at hv'; exact hv', fun w hw' => ?_⟩
             have htt : Trc T N G cal all lim R W (pre ++ a ++ [p]) σ0 (aft o σp.f q) := ht.app (.cons ho hs hre hv hw (.nil _))
             rcases htt.frame hgv with ⟨z, hz, oz, k1, k2, k3⟩ | ⟨_, k2⟩
             · have e := okDst_ok C.hdst (p := z) (q := y) (by rw [hpl]; simp only [List.mem_append, List.mem_cons, List.mem_singleton, List.not_mem_nil, or_false] at hz ⊢; rcases hz with hz | hz <;> simp [hz]) (by rw [hpl]; simp only [List.mem_append, List.mem_cons]; exact .inl (by simpa using hy')) k1 k2 hoy hdd
               rw [e, hw'] at k3
               exact Option.some.inj k3
             · exact absurd hdd (k2 y (by simp only [List.mem_append] at hy' ⊢; exact .inl hy') oy hoy)
           · cases h7
         · cases h7
       · cases h7
     · rename_i hg
       exact .inr hg
     · cases h7
 · rcases setS_true hsy with e | ⟨hne, hsy⟩
   · have := C.inj hy hpp e
     subst this
     rw [ho] at ho'; cases ho'
     obtain ⟨h1, h2⟩ := hval v (by rw [← hv]; exact hR)
     refine ⟨h1, ?_⟩
     rw [hd', ← h2]; exact upd_same ..
   · obtain ⟨h1, h2⟩ := H.sa y hy hsy o' t v ho' hd' hR
     refine ⟨VV.lt_mono (hmonoB y) v h1, ?_⟩
     have hdn : o.dst ≠ some t := fun e => hne (okDst_ok C.hdst hy hpp ho' hd' ho e)
     rw [toV_ext hx v (VV.lt_mono (H.DB_le C hy hsy) v h1), ← h2]
     cases hdo : o.dst with
     | none => rfl
     | some d => exact upd_ne _ _ fun e => hdn (by rw [hdo, e])
 · obtain ⟨h1, h2⟩ := H.sb t v hno hg
   refine ⟨h1, ?_⟩
   rw [toV_ext hx v (VV.lt_mono (fun b hb => .inl (.inl hb)) v h1), ← h2]
   cases hdo : o.dst with
   | none => rfl
   | some d => exact upd_ne _ _ fun e => hno p hpp o ho (by rw [hdo, e])
 · rcases setS_true hsy with e | ⟨_, hsy⟩
   · rw [e, hw, hqw] at h; cases h
   · exact VO.lt_mono (hmonoB y) (H.lw y hy hsy k vo h)
theorem HI.extras : ∀ (b a : List PE), suf = a ++ b → ∃ X : List (Nat × Obj), (∀ q ∈ b, s q.j = true → ∀ k vo, W q.j = some (k, vo) → ∃ ob, Holds ρ k vo ob ∧ (ρ.at_ k, ob) ∈ X) ∧
 (∀ x ∈ X, x ∈ L ∧ ∃ q ∈ b, s q.j = true ∧ ∃ k vo, W q.j = some (k, vo) ∧ x.1 = ρ.at_ k)
 | [], _, _ => ⟨[], fun q hq => (by cases hq), fun x hx => (by cases hx)⟩
 | p :: b, a, e => by
   obtain ⟨X, h1, h2⟩ := HI.extras b (a ++ [p]) (by rw [e]; simp)
   by_cases hc : s p.j = true ∧ ∃ k vo, W p.j = some (k, vo)
   · obtain ⟨hs, k, vo, hw⟩ := hc
     obtain ⟨_, _, ob, h3, h4⟩ := H.la.ok k false vo (.inr ⟨rfl, p, by rw [e]; simp, hs, hw⟩)
     refine ⟨(ρ.at_ k, ob) :: X, fun q hq hsq k' vo' hw' => ?_, fun x hx => ?_⟩
     · rcases List.mem_cons.1 hq with rfl | hq
       · rw [hw] at hw'
         cases hw'
         exact ⟨ob, h3, by simp⟩
       · obtain ⟨ob', h5, h6⟩ := h1 q hq hsq k' vo' hw'
         exact ⟨ob', h5, List.mem_cons_of_mem _ h6⟩
     · rcases List.mem_cons.1 hx with rfl | hx
       · exact ⟨by simpa using h4, p, by simp, hs, k, vo, hw, rfl⟩
       · obtain ⟨h5, q, hq, h6⟩ := h2 x hx
         exact ⟨h5, q, List.mem_cons_of_mem _ hq, h6⟩
   · refine ⟨X, fun q hq hsq k vo hw => ?_, fun x hx => ?_⟩
     · rcases List.mem_cons.1 hq with rfl | hq
       · exact absurd ⟨hsq, k, vo, hw⟩ hc
       · exact h1 q hq hsq k vo hw
     · obtain ⟨h5, q, hq, h6⟩ := h2 x hx
       exact ⟨h5, q, List.mem_cons_of_mem _ hq, h6⟩
theorem HI.sep {a b : List PE} {p : PE} (hpl : plan = (pre ++ a) ++ p :: b) {y z : PE} (hy : y ∈ pre ++ a) (hz : z ∈ b) : y.j ≠ z.j := by
 obtain ⟨b1, b2, hb⟩ := List.append_of_mem hz
 obtain ⟨_, _, k⟩ := C.hp (pre ++ a ++ p :: b1) z b2 (by rw [hpl, hb]; simp)
 exact k.ne y (by simp only [List.mem_append] at hy ⊢; exact .inl hy)
theorem HI.notA {a b : List PE} {p : PE} {o : Oper} (hpl : plan = (pre ++ a) ++ p :: b) (hok : PEok all plan (pre ++ a) p o) {z : PE} (hz : z ∈ b) {k : Nat} {vo : VO} (hw : W z.j = some (k, vo)) : ¬ DA D0 lim W plan pre σ p k ∧ k < lim := by
 have hzp : z ∈ plan := by rw [hpl]; simp [hz]
 obtain ⟨h3, _, h5, h6⟩ := C.ht.names.2 z hzp k vo hw
 refine ⟨?_, h5⟩
 rintro ((h | h | ⟨q, hq, vo', h⟩) | ⟨q, hq, hj, vo', h⟩)
 · have := C.hD k h
   have := C.r0
   omega
 · omega
 · have hqp : q ∈ plan := by rw [H.pl]; simp [hq]
   have e := C.ht.namesInj q hqp z hzp k vo' vo h hw
   exact H.sep C hpl (by simp [hq]) hz e
 · have e := C.ht.namesInj q hq z hzp k vo' vo h hw
   obtain ⟨y, hy, ey⟩ := hok.anc2 _ hj
   exact H.sep C hpl hy hz (ey.trans e)
open Classical in
theorem HI.kind3 {p : PE} (hpp : p ∈ plan) (hk : 3 ≤ p.k) (hsj : s p.j = false) {o : Oper} (ho : all[p.j]? = some o) (hd : ∀ x ∈ dirs o, s x = true) : Goal P T N G cal all lim R W plan ρ0 D0 σ0 σfin s g i L p.j o := by
 have hanc := H.anc C hpp ho hd
 have hmem := hpp
 rw [H.pl, List.mem_append] at hmem
 rcases hmem with hm | hm
 · rw [H.c1 p hm hk] at hsj; cases hsj
 obtain ⟨a, b, hab⟩ := List.append_of_mem hm
 have hpl : plan = (pre ++ a) ++ p :: b := by rw [H.pl, hab]; simp
 obtain ⟨σp, o', q, h1, h1', h2, h3, h4, h5, hre, htb⟩ := H.splitS C hab
 rw [ho] at h2; cases h2
 obtain ⟨o2, ho2, hok⟩ := C.hp _ p _ hpl
 rw [ho] at ho2; cases ho2
 obtain ⟨hlow, hnew⟩ := H.lowA C hab hok hanc hk
 obtain ⟨hhb, hn, hheap⟩ := h1.low hlow
 have hS := H.slots C hpl hanc (a' := pre ++ a) (b' := p :: b) hpl h1' fun q hq => hq
 have newin : ∀ y ∈ a, ∀ k vo, W y.j = some (k, vo) → y.j ∈ p.anc := fun y hy k vo hw => hnew y (by simp [hy]) (C.ht.names.2 y (by rw [hpl]; simp [hy]) k vo hw).2.2.2
 have hA : ∀ k fz vo, get k σp.h = some (fz, vo) → DA D0 lim W plan pre σ p k ∧ vo.lt (DA D0 lim W plan pre σ p) ∧ SS W suf σ s k fz vo := fun k fz vo hk' => by
  rcases hheap k fz vo hk' with h | ⟨e, y, hy, h⟩
  · obtain ⟨k1, k2⟩ := H.lk k fz vo h
    exact ⟨.inl k1, VO.lt_mono (fun x hx => .inl hx) k2, .inl h⟩
  · have hya := newin y hy k vo h
    have hyp : y ∈ plan := by rw [hpl]; simp [hy]
    refine ⟨.inr ⟨y, hyp, hya, vo, h⟩, VO.lt_mono ?_ (H.lw y hyp (hanc _ hya) k vo h), .inr ⟨e, y, by rw [hab]; simp [hy], hanc _ hya, h⟩⟩
    rintro x ((hx | ⟨z, hz, hj, vo', hw⟩) | ⟨vo', hw⟩)
    · exact .inl hx
    · exact .inr ⟨z, hz, hok.tr y (by simp [hy]) hya _ hj, vo', hw⟩
    · exact .inr ⟨y, hyp, hya, vo', hw⟩
 have hAM : ∀ (σ' : DS), σ.n ≤ σ'.n → (DA D0 lim W plan pre σ p).le (DM D0 lim W (pre ++ a ++ [p]) σ') := fun σ' hσ x hx => by
  rcases hx with (hx | hx | ⟨y, hy, h⟩) | ⟨y, hy, hj, h⟩
  · exact .inl hx
  · exact .inr (.inl ⟨hx.1, Nat.lt_of_lt_of_le hx.2 hσ⟩)
  · exact .inr (.inr ⟨y, by simp [hy], h⟩)
  · obtain ⟨z, hz, ez⟩ := hok.anc2 _ hj
    exact .inr (.inr ⟨z, by simp only [List.mem_append] at hz ⊢; exact .inl hz, by rw [ez]; exact h⟩)
 have early : ∀ z ∈ b, setS s p.j z.j = true → s z.j = true := fun z hz hs => by
  rcases setS_true hs with e | ⟨_, hs⟩
  · exfalso
    have := C.inj (by rw [hpl]; simp [hz]) hpp e
    subst this
    obtain ⟨b1, b2, hb⟩ := List.append_of_mem hz
    obtain ⟨_, _, k2⟩ := C.hp (pre ++ a ++ z :: b1) z b2 (by rw [hpl, hb]; simp)
    exact k2.ne z (by simp) rfl
  · exact hs
 have hle := H.DA_le C hanc
 unfold stepR at h3
 have h3' := h3
 split at h3
 ·
  rename_i hg
  have hstep : stepR T N G cal all lim p o (restr σp.f p.us) σp = some q := by unfold stepR; exact h3'
  split at h3
  · omega
  · omega
  · omega
  cases h3
  refine .inr ⟨gokV_ok hS hg, _, b, _, ρ, H.chain C hab hk hsj ho hd h1' hstep hre h4 h5 htb rfl rfl (by rw [hn]; exact Nat.le_refl _) (Ext.refl _ _) ?_ ?_ fun v hv => by cases hv; simp [VV.lt, VV.lts, toV, toVs, undef]⟩
  · refine (H.la.mono ?_).sub ?_
    · rintro x (hx | ⟨y, hy, hs, h⟩)
      · exact .inl (hAM _ (by simp only [aft]; rw [hn]; exact Nat.le_refl _) x (.inl hx))
      · exact .inr ⟨y, hy, setS_mono hs, h⟩
    · rintro k fz vo (h | ⟨e, y, hy, hs, h⟩)
      · exact (hA k fz vo h).2.2
      · exact .inr ⟨e, y, by rw [hab]; simp [hy], early y hy hs, h⟩
  · intro k fz vo h
    have := hA k fz vo h
    have hm := hAM (aft o σp.f ⟨some (.tup []), none, σp.h, σp.h, σp.n, σp.r⟩) (by simp only [aft]; rw [hn]; exact Nat.le_refl _)
    exact ⟨hm _ this.1, VO.lt_mono hm this.2.1⟩
 · rename_i hg
   have hstep : stepR T N G cal all lim p o (restr σp.f p.us) σp = some q := by unfold stepR; exact h3'
   split at h3
   · omega
   · omega
   · omega
   split at h3
   · rename_i e he
     cases h3
     obtain ⟨X, hX1, hX2⟩ := H.extras C (p :: b) a hab
     obtain ⟨ρ1, hρ1⟩ : ∃ ρ1 : Loc, ρ1 = ⟨ρ.at_, ρ.cap, ρ.keep ++ X, ρ.good⟩ := ⟨_, rfl⟩
     have x01 : ∀ D : Dom, Ext0 D ρ ρ1 := fun D => by subst hρ1; exact ⟨fun _ _ => rfl, fun _ _ => rfl, rfl⟩
     have hS1 : Slots ρ1 (DA D0 lim W plan pre σ p) (restr σp.f p.us) g := fun t v hv => ⟨(hS t v hv).1, by rw [toV_ext0 (x01 _) v (hS t v hv).1]; exact (hS t v hv).2⟩
     have hG1 : Glob Γ ρ1 (DA D0 lim W plan pre σ p) G := ⟨by subst hρ1; exact (H.globA C (p := p)).gd, (H.globA C (p := p)).le, by subst hρ1; exact (H.globA C (p := p)).at_⟩
     have notp : ∀ z ∈ p :: b, ∀ k vo, W z.j = some (k, vo) → z ∈ b := fun z hz k vo hw => by
      rcases List.mem_cons.1 hz with rfl | hz
      · rw [h5] at hw; cases hw
      · exact hz
     have hL1 : Lay ρ1 (DA D0 lim W plan pre σ p) σp.h i L := by
      refine ⟨fun k fz vo hk' => ?_, fun k k' vo vo' hk1 hk2 e => ?_, fun x hx => ?_⟩
      · obtain ⟨k1, k2, k3⟩ := hA k fz vo hk'
        obtain ⟨_, _, ob, k4, k5⟩ := H.la.ok k fz vo k3
        refine ⟨k1, k2, ob, k4.ext0 (x01 _) k1 k2, ?_⟩
        subst hρ1; exact k5
      · refine H.la.inj k k' vo vo' (hA k _ _ hk1).2.2 (hA k' _ _ hk2).2.2 ?_
        subst hρ1; exact e
      · have hx' : x ∈ ρ.keep ++ X := by subst hρ1; exact hx
        rcases List.mem_append.1 hx' with hx' | hx'
        · refine ⟨(H.la.frm x hx').1, fun k vo hk' e => (H.la.frm x hx').2 k vo (hA k _ _ hk').2.2 ?_⟩
          subst hρ1; exact e
        · obtain ⟨k1, z, hz, hsz, k', vo', hw, ek⟩ := hX2 x hx'
          refine ⟨k1, fun k vo hk' e => ?_⟩
          have e' : ρ.at_ k = ρ.at_ k' := by rw [← ek]; subst hρ1; exact e
          have e2 := H.la.inj k k' vo vo' (hA k _ _ hk').2.2 (.inr ⟨rfl, z, by rw [hab]; simp only [List.mem_append]; exact .inr hz, hsz, hw⟩) e'
          rw [e2] at hk'
          exact (H.notA C hpl hok (notp z hz _ _ hw) hw).1 (hA k' _ _ hk').1
     have hD1 : Fresh (DA D0 lim W plan pre σ p) σp.n := fun x hx => by
      rw [hn]
      have nm : ∀ y ∈ plan, ∀ vo, W y.j = some (x, vo) → x < σ.n := fun y hy vo hw => Nat.lt_of_lt_of_le (C.ht.names.2 y hy x vo hw).2.2.1 H.nn
      rcases hx with (hx | hx | ⟨y, hy, vo, h⟩) | ⟨y, hy, hj, vo, h⟩
      · have := C.hD x hx
        have := C.hn
        have := H.nn
        omega
      · exact hx.2
      · exact nm y (by rw [H.pl]; simp [hy]) vo h
      · exact nm y hy vo h
     refine .inl ⟨gokV_ok hS hg, OpS.mono (evOp_ok C.hT C.hcal hS1 hG1 hL1 hD1 he) ?_⟩
     rintro u i' L' _ ⟨ρ', hE, hnn, hL', hvv⟩
     obtain ⟨D1, hD1e⟩ : ∃ D1 : Dom, D1 = (DA D0 lim W plan pre σ p).upto σp.n e.n := ⟨_, rfl⟩
     rw [← hD1e] at hL' hvv
     have hDA1 : (DA D0 lim W plan pre σ p).le D1 := by rw [hD1e]; exact fun x hx => Or.inl hx
     have hD1M : D1.le (DM D0 lim W (pre ++ a ++ [p]) (aft o σp.f ⟨e.v, none, e.h, e.h, e.n, σp.r⟩)) := by
      rw [hD1e]
      rintro x (hx | hx)
      · exact hAM _ (by simp only [aft]; omega) x hx
      · refine .inr (.inl ⟨?_, hx.2⟩)
        have := H.nn
        have := hx.1
        omega
     obtain ⟨ρ2, hρ2⟩ : ∃ ρ2 : Loc, ρ2 = ⟨fun x => if D1 x then ρ'.at_ x else ρ.at_ x, fun x => if D1 x then ρ'.cap x else ρ.cap x, ρ.keep, ρ.good⟩ := ⟨_, rfl⟩
     have x12 : Ext0 D1 ρ' ρ2 := by subst hρ2; exact ⟨fun x hx => by simp [hx], fun x hx => by simp [hx], by rw [hE.good, hρ1]⟩
     have hkeep : ρ'.keep = ρ.keep ++ X := by rw [hE.keep, hρ1]
     have nmn : ∀ y ∈ plan, ∀ x vo, W y.j = some (x, vo) → x < σp.n := fun y hy x vo hw => by
      have := (C.ht.names.2 y hy x vo hw).2.2.1
      have := H.nn
      omega
     have hDDn : ∀ x, DD D0 lim W plan pre σ s x → x < σp.n := fun x hx => by
      rcases hx with hx | ⟨y, hy, hj, vo, h⟩
      · exact hD1 x (.inl hx)
      · exact nmn y hy x vo h
     have x02 : Ext0 (DD D0 lim W plan pre σ s) ρ ρ2 := by
      have key : ∀ x, DD D0 lim W plan pre σ s x → D1 x → DA D0 lim W plan pre σ p x := fun x hx h => by
       rw [hD1e] at h
       rcases h with h | h
       · exact h
       · have := hDDn x hx; omega
      refine ⟨fun x hx => ?_, fun x hx => ?_, by rw [hρ2]⟩
      · rw [hρ2]
        by_cases h : D1 x
        · simp only [h, if_true]
          rw [hE.at_ x (key x hx h), hρ1]
        · simp only [h, if_false]
      · rw [hρ2]
        by_cases h : D1 x
        · simp only [h, if_true]
          rw [hE.cap x (key x hx h), hρ1]
        · simp only [h, if_false]
     have notD1 : ∀ z ∈ b, ∀ k vo, W z.j = some (k, vo) → ¬ D1 k := fun z hz k vo hw h => by
      obtain ⟨k1, k2⟩ := H.notA C hpl hok hz hw
      rw [hD1e] at h
      rcases h with h | h
      · exact k1 h
      · have := nmn z (by rw [hpl]; simp [hz]) k vo hw
        omega
     have at2 : ∀ z ∈ b, ∀ k vo, W z.j = some (k, vo) → ρ2.at_ k = ρ.at_ k := fun z hz k vo hw => by
      rw [hρ2]
      simp only [notD1 z hz k vo hw, if_false]
     have at1 : ∀ k, D1 k → ρ2.at_ k = ρ'.at_ k := x12.at_
     refine ⟨_, b, _, ρ2, H.chain C hab hk hsj ho hd h1' hstep hre h4 h5 htb rfl rfl (by simp only; omega) ⟨x02, by rw [hρ2]⟩ ?_ ?_ fun v hv => ?_⟩
     · refine ⟨fun k fz vo hk' => ?_, fun k k' vo vo' hk1 hk2 e' => ?_, fun x hx => ?_⟩
       · rcases hk' with hk' | ⟨rfl, z, hz, hsz, hw⟩
         · obtain ⟨k1, k2, ob, k3, k4⟩ := hL'.ok k fz vo hk'
           refine ⟨.inl (hD1M _ k1), VO.lt_mono (fun x hx => .inl (hD1M x hx)) k2, ob, k3.ext0 x12 k1 k2, ?_⟩
           rw [at1 k k1]; exact k4
         · have hsz' := early z hz hsz
           have hzs : z ∈ suf := by rw [hab]; simp [hz]
           have hzp : z ∈ plan := by rw [hpl]; simp [hz]
           obtain ⟨ob, k3, k4⟩ := hX1 z (List.mem_cons_of_mem _ hz) hsz' k vo hw
           obtain ⟨k1, k2, _⟩ := H.la.ok k false vo (.inr ⟨rfl, z, hzs, hsz', hw⟩)
           refine ⟨.inr ⟨z, hzp, hsz, vo, hw⟩, VO.lt_mono ?_ k2, ob, k3.ext0 x02 k1 k2, ?_⟩
           · rintro x (hx | ⟨y, hy, hs, h⟩)
             · exact .inl (hD1M _ (hDA1 _ (.inl hx)))
             · exact .inr ⟨y, hy, setS_mono hs, h⟩
           · rw [at2 z hz k vo hw]
             have := (hL'.frm (ρ.at_ k, ob) (by rw [hkeep]; exact List.mem_append_right _ k4)).1
             simpa using this
       · have cross : ∀ k vo k' vo', get k e.h = some (false, vo) → (∃ z ∈ b, setS s p.j z.j = true ∧ W z.j = some (k', vo')) → ρ2.at_ k ≠ ρ2.at_ k' := by
          rintro k vo k' vo' hk1 ⟨z, hz, hsz, hw⟩ e'
          obtain ⟨ob, _, k4⟩ := hX1 z (List.mem_cons_of_mem _ hz) (early z hz hsz) k' vo' hw
          have := (hL'.frm (ρ.at_ k', ob) (by rw [hkeep]; exact List.mem_append_right _ k4)).2 k vo hk1
          rw [at1 k (hL'.ok _ _ _ hk1).1, at2 z hz k' vo' hw] at e'
          exact this e'
         rcases hk1 with hk1 | ⟨_, z, hz, hsz, hw⟩ <;> rcases hk2 with hk2 | ⟨_, z', hz', hsz', hw'⟩
         · rw [at1 k (hL'.ok _ _ _ hk1).1, at1 k' (hL'.ok _ _ _ hk2).1] at e'
           exact hL'.inj k k' vo vo' hk1 hk2 e'
         · exact absurd e' (cross k vo k' vo' hk1 ⟨z', hz', hsz', hw'⟩)
         · exact absurd e'.symm (cross k' vo' k vo hk2 ⟨z, hz, hsz, hw⟩)
         · rw [at2 z hz k vo hw, at2 z' hz' k' vo' hw'] at e'
           exact H.la.inj k k' vo vo' (.inr ⟨rfl, z, by rw [hab]; simp [hz], early z hz hsz, hw⟩) (.inr ⟨rfl, z', by rw [hab]; simp [hz'], early z' hz' hsz', hw'⟩) e'
       · have hx' : x ∈ ρ.keep := by rw [hρ2] at hx; exact hx
         have hfr := hL'.frm x (by rw [hkeep]; exact List.mem_append_left _ hx')
         refine ⟨hfr.1, fun k vo hk' => ?_⟩
         rcases hk' with hk' | ⟨_, z, hz, hsz, hw⟩
         · rw [at1 k (hL'.ok _ _ _ hk').1]; exact hfr.2 k vo hk'
         · rw [at2 z hz k vo hw]
           exact (H.la.frm x hx').2 k vo (.inr ⟨rfl, z, by rw [hab]; simp [hz], early z hz hsz, hw⟩)
     · intro k fz vo h
       obtain ⟨k1, k2, _⟩ := hL'.ok k fz vo h
       exact ⟨hD1M _ k1, VO.lt_mono hD1M k2⟩
     · obtain ⟨k1, k2⟩ := hvv v hv
       exact ⟨VV.lt_mono (fun x hx => .inl (.inl (hD1M x hx))) v k1, by rw [toV_ext0 x12 v k1]; exact k2⟩
   · cases h3
 · cases h3
end
theorem evD_ok (hm : P.follows .mixedOrders = true) (hT : T.ok P) (hcal : CalOk P Γ G cal) {tail : List Nat} {tops : List Oper} (hok : planOk all plan tail = true) (htops : getAll all tail = some tops) {ρ : Loc} {D : Dom} {n : Nat} {f : Tr VV} {h : VH} {fr : Fr} {i : Imm} {L : SH} {id : Nat} {s' : DS} {s2 : Tr VV × VH × Nat}
 (hS : Slots ρ D f fr) (hG : Glob Γ ρ D G) (hL : Lay ρ D h i L) (hD : Fresh D n) (hn : n ≤ lim) (he : evD T N G cal all lim plan ⟨f, h, h, lim, n⟩ = some s') (he2 : evOps T N G cal all tops s'.f s'.h s'.n = some s2) :
 CS P N (.region id all.toArray true) fr i L (fun e fr' i' L' => e = .normal ∧ Aft ρ D n s2 fr' i' L') := by
 unfold planOk at hok
 simp only [Bool.and_eq_true] at hok
 obtain ⟨⟨hrg, hpe⟩, hdst⟩ := hok
 have hp : ∀ a p b, plan = a ++ p :: b → ∃ o, all[p.j]? = some o ∧ PEok all plan a p o := fun a p b e => by
  simpa using okPEs_ok hpe a p b e
 have hnd : (plan.map (·.j)).Nodup := by
  have : ∀ (l a : List PE), plan = a ++ l → (l.map (·.j)).Nodup := by
   intro l
   induction l with
   | nil => intro _ _; simp
   | cons x l ih =>
     intro a e
     refine List.nodup_cons.2 ⟨fun hin => ?_, ih (a ++ [x]) (by rw [e]; simp)⟩
     obtain ⟨y, hy, ey⟩ := List.mem_map.1 hin
     obtain ⟨b1, b2, hb⟩ := List.append_of_mem hy
     obtain ⟨_, _, k⟩ := hp (a ++ x :: b1) y b2 (by rw [e, hb]; simp)
     exact k.ne x (by simp) ey.symm
  exact this plan [] rfl
 obtain ⟨R, W, ht⟩ := evD_trc plan _ s' hnd he
 have C : Ctx Γ P T N G cal all lim R W plan ρ D n ⟨f, h, h, lim, n⟩ s' := ⟨hT, hcal, hp, hdst, ht, hG, hD, hn, rfl⟩
 refine CS.drawH hm (plan.map (·.j)) tail hrg htops (HH T N G cal all lim R W plan ρ D ⟨f, h, h, lim, n⟩ s') ?_ ?_ ?_
 · refine ⟨[], plan, ⟨f, h, h, lim, n⟩, ρ, ⟨rfl, .nil _, ht, rfl, Nat.le_refl _, fun k o hs => (by cases hs), fun q hq => (by cases hq), fun _ _ _ => rfl, fun q hq => (by cases hq), fun q hq => (by cases hq), Ext.refl _ _, fun q hq hs => (by cases hs), fun t v _ hg => hS t v hg, ?_, ?_, fun q hq hs => (by cases hs)⟩⟩
   · refine (hL.mono fun x hx => .inl (.inl hx)).sub ?_
     rintro k fz vo (h | ⟨_, q, _, hs, _⟩)
     · exact h
     · cases hs
   · intro k fz vo hk
     obtain ⟨h1, h2, _⟩ := hL.ok k fz vo hk
     exact ⟨.inl h1, VO.lt_mono (fun x hx => .inl hx) h2⟩
 · intro j hj o ho s hs hd g i' L' _ hH
   obtain ⟨pre, suf, σ, ρ', H⟩ := hH
   obtain ⟨p, hpp, rfl⟩ := List.mem_map.1 hj
   have hd' : ∀ x ∈ dirs o, s x = true := fun x hx => by
    obtain ⟨e, he, hb, rfl⟩ := mem_dirs.1 hx
    exact hd e he hb
   have hk : p.k = 0 ∨ p.k = 1 ∨ p.k = 2 ∨ 3 ≤ p.k := by omega
   have main : Goal P T N G cal all lim R W plan ρ D ⟨f, h, h, lim, n⟩ s' s g i' L' p.j o := by
    rcases hk with hk | hk | hk | hk
    · exact H.kind0 C hpp hk hs ho hd'
    · exact H.kind1 C hpp hk hs ho hd'
    · exact H.kind2 C hpp hk hs ho hd'
    · exact H.kind3 C hpp hk hs ho hd'
   exact main
 · intro g i' L' _ hH
   obtain ⟨pre, suf, σ, ρ', H⟩ := hH
   have hall : ∀ p ∈ plan, ((plan.map (·.j)).contains p.j) = true := fun p hp => by simp; exact ⟨p, hp, rfl⟩
   have hlow : ∀ q ∈ suf, q.k ≤ 2 := fun q hq => by
    rcases Nat.lt_or_ge 2 q.k with hk | hk
    · have h1 := H.c2 q hq hk
      rw [hall q (by rw [H.pl]; simp [hq])] at h1; cases h1
    · exact hk
   obtain ⟨_, hn2, hheap⟩ := H.t2.low hlow
   have hDn : (DD D lim W plan pre σ fun k => (plan.map (·.j)).contains k).le (D.upto n s'.n) := by
    have nm : ∀ y ∈ plan, ∀ x vo, W y.j = some (x, vo) → n ≤ x ∧ x < s'.n := fun y hy x vo hw => by
     have := ht.names.2 y hy x vo hw
     have := H.nn
     simp only at *
     omega
    rintro x ((hx | hx | ⟨y, hy, vo, hw⟩) | ⟨y, hy, _, vo, hw⟩)
    · exact .inl hx
    · exact .inr ⟨by omega, by rw [hn2]; exact hx.2⟩
    · exact .inr (nm y (by rw [H.pl]; simp [hy]) x vo hw)
    · exact .inr (nm y hy x vo hw)
   have hle : n ≤ s'.n := by rw [hn2]; have := H.nn; omega
   have hSf : Slots ρ' (D.upto n s'.n) s'.f g := by
    intro t v hg
    rcases ht.frame hg with ⟨q, hq, oq, h1, h2, h3⟩ | ⟨h1, h2⟩
    · obtain ⟨h4, h5⟩ := H.sa q hq (hall q hq) oq t v h1 h2 h3
      exact ⟨VV.lt_mono (fun x hx => hDn x (H.DB_le C hq (hall q hq) x hx)) v h4, h5⟩
    · obtain ⟨h4, h5⟩ := H.sb t v h2 h1
      exact ⟨VV.lt_mono (fun x hx => .inl hx) v h4, h5⟩
   have hLf : Lay ρ' (D.upto n s'.n) s'.h i' L' := by
    refine (H.la.mono hDn).sub ?_
    intro k fz vo hk
    rcases hheap k fz vo hk with hk | ⟨e, q, hq, hw⟩
    · exact .inl hk
    · exact .inr ⟨e, q, hq, hall q (by rw [H.pl]; simp [hq]), hw⟩
   exact RS.mono' (evOps_ok hT hcal hSf (hG.ext H.ex (D.le_upto n s'.n)) hLf (hD.upto hle) he2) fun fr' i'' L'' k => ⟨rfl, k.step H.ex hle⟩
end
end
end Go.Eng.Ev
namespace Go.Eng.Ev
noncomputable section
open Go Go.Eng
section
variable {P : Program} {b : Frame} {a : Act} {k : List Item} {cs : List Frame} {w : World} {Q : Exit → Act → World → Prop} {F : Fence} {n : Nat}
theorem stepR_scope {c : Code} : step P (lone (b.atR a (.code (.scope c) :: k)) cs w) = .next (lone (b.atR a (.code c :: .inScope c :: k)) cs w) :=
 step_lone_go (by simp [stepG, stepG.exec, Frame.atR])
theorem stepR_inScope {c : Code} : step P (lone (b.atR a (.inScope c :: k)) cs w) = .next (lone (b.atR a k) cs w) :=
 step_lone_go (by simp [stepG, stepG.exec, Frame.atR])
theorem wpIn_scope_straight {c : Code} (h : c.wpIn F n P (Exit.noGoto Q) a w) : (Code.scope c).wpIn F n P Q a w := by
 intro b k cs hro hb hr
 have h0 : (lone (b.atR a (.code (.scope c) :: k)) cs w).fenced P F := fenced_calm hb hr rfl
 obtain ⟨e, a₁, w₁, hq, harr⟩ := h b (.inScope c :: k) cs hro hb hr
 cases e with
 | normal => exact ⟨.normal, a₁, w₁, hq, .head h0 stepR_scope (StepsIn.trans harr (.one (fenced_calm hb hr rfl) stepR_inScope))⟩
 | exit id =>
   have hx : exitTo id (.inScope c :: k) = exitTo id k := by simp [exitTo]
   exact ⟨.exit id, a₁, w₁, hq, fun k' hk => .head h0 stepR_scope (harr.1 k' (by rw [hx]; exact hk)),
    fun hr' hk => let ⟨k₁, h1, h2⟩ := harr.2 hr' (by rw [hx]; exact hk); ⟨k₁, h1, .head h0 stepR_scope h2⟩⟩
 | goto l => exact hq.elim
 | ret => exact ⟨_, a₁, w₁, hq, .of_steps (.one h0 stepR_scope) harr⟩
 | panic ch => exact ⟨_, a₁, w₁, hq, .of_steps (.one h0 stepR_scope) harr⟩
 | outgrown => exact ⟨_, a₁, w₁, hq, .of_steps (.one h0 stepR_scope) harr⟩
end
@[irreducible] def CM (P : Program) (F : Fence) (n : Nat) (c : Code) (f : Fr) (i : Imm) (L : SH) (Q : List Nat → Ex → Fr → Imm → SH → Prop) : Prop :=
 ∀ ds w, St i L w → ∀ R : Exit → Act → World → Prop, (∀ rs e f' i' L' w', i.le i' → St i' L' w' → Q rs e f' i' L' → R e.to (ofD n (rs.map mark ++ ds) f') w') → c.wpIn F 0 P R (ofD n ds f) w
section
variable {P : Program} {F : Fence} {n : Nat} {c x y : Code} {f : Fr} {i : Imm} {L : SH} {Q Q' : List Nat → Ex → Fr → Imm → SH → Prop}
theorem CM.use (h : CM P F n c f i L Q) (ds : List Deferred) (w : World) (hw : St i L w) (R : Exit → Act → World → Prop) (hR : ∀ rs e f' i' L' w', i.le i' → St i' L' w' → Q rs e f' i' L' → R e.to (ofD n (rs.map mark ++ ds) f') w') : c.wpIn F 0 P R (ofD n ds f) w := by
 unfold CM at h; exact h ds w hw R hR
theorem CM.of (hF : Wd F) (h : CS P n c f i L (Q [])) : CM P F n c f i L Q := by
 unfold CM
 intro ds w hw R hR
 exact h.use hF ds w hw R fun e f' i' L' w' hi hs q => hR [] e f' i' L' w' hi hs q
theorem CM.mono (h : CM P F n c f i L Q) (hq : ∀ rs e f' i' L', i.le i' → Q rs e f' i' L' → Q' rs e f' i' L') : CM P F n c f i L Q' := by
 unfold CM at *
 intro ds w hw R hR
 exact h ds w hw R fun rs e f' i' L' w' hi hs q => hR rs e f' i' L' w' hi hs (hq rs e f' i' L' hi q)
theorem CM.seq (h : CM P F n x f i L fun rs => thenQ (fun f' i' L' => CM P F n y f' i' L' fun rs' => Q (rs' ++ rs)) (Q rs)) : CM P F n (.seq x y) f i L Q := by
 unfold CM
 intro ds w hw R hR
 refine wpIn_seq (h.use ds w hw _ fun rs e f' i' L' w' hi hs q => ?_)
 unfold thenQ at q
 cases e with
 | normal =>
   simp only [Ex.to, Exit.then]
   simp only at q
   exact q.use (rs.map mark ++ ds) w' hs R fun rs' e f'' i'' L'' w'' hi' hs' q' => by
    have := hR (rs' ++ rs) e f'' i'' L'' w'' (hi.trans hi') hs' q'
    rw [List.map_append, List.append_assoc] at this
    exact this
 | exit id => exact hR rs (.exit id) f' i' L' w' hi hs q
 | ret => exact hR rs .ret f' i' L' w' hi hs q
theorem CM.cond_true {cnd : Operand} (hc : ev n f cnd = .bool true) (h : CM P F n x f i L Q) : CM P F n (.cond cnd x y) f i L Q := by
 unfold CM at *
 intro ds w hw R hR
 exact wpIn_cond_true (by rw [ofD_eval]; exact hc) (h ds w hw R hR)
theorem CM.cond_false {cnd : Operand} (hc : ev n f cnd = .bool false) (h : CM P F n y f i L Q) : CM P F n (.cond cnd x y) f i L Q := by
 unfold CM at *
 intro ds w hw R hR
 exact wpIn_cond_false (by rw [ofD_eval]; exact hc) (h ds w hw R hR)
theorem CM.block {id : Nat} (h : CM P F n x f i L fun rs => blkQ id (fun f' i' L' => Q rs .normal f' i' L') (Q rs)) : CM P F n (.block id x) f i L Q := by
 unfold CM
 intro ds w hw R hR
 refine wpIn_block (h.use ds w hw _ fun rs e f' i' L' w' hi hs q => ?_)
 unfold blkQ at q
 cases e with
 | normal => exact hR rs .normal f' i' L' w' hi hs q
 | ret => exact hR rs .ret f' i' L' w' hi hs q
 | exit j =>
   simp only [Ex.to, Exit.inBlock]
   simp only at q
   split at q
   · rename_i e; rw [if_pos e]; exact hR rs .normal f' i' L' w' hi hs q
   · rename_i e; rw [if_neg e]; exact hR rs (.exit j) f' i' L' w' hi hs q
theorem CM.label {l : Nat} (hF : Wd F) (h : Q [] .normal f i L) : CM P F n (.label l) f i L Q := by
 unfold CM
 intro ds w hw R hR
 exact wpIn_label (hR [] .normal f i L w (Imm.le.refl i) hw h)
theorem CM.scope (h : CM P F n x f i L Q) : CM P F n (.scope x) f i L Q := by
 unfold CM
 intro ds w hw R hR
 refine wpIn_scope_straight (h.use ds w hw _ fun rs e f' i' L' w' hi hs q => ?_)
 cases e with
 | normal => exact hR rs .normal f' i' L' w' hi hs q
 | exit id => exact hR rs (.exit id) f' i' L' w' hi hs q
 | ret => exact hR rs .ret f' i' L' w' hi hs q
theorem CM.loopF (I : Nat → List Nat → Fr → Imm → SH → Prop) (m0 : Nat) (h0 : I m0 [] f i L)
 (round : ∀ m rs g i' L', i.le i' → I m rs g i' L' → CM P F n c g i' L' fun rs' => thenQ (fun f'' i'' L'' => ∃ m', m' < m ∧ I m' (rs' ++ rs) f'' i'' L'') (Q (rs' ++ rs))) : CM P F n (.loop c) f i L Q := by
 unfold CM
 intro ds w hw R hR
 refine wpIn_loop_ghost (fun m a w => ∃ rs f' i' L', a = ofD n (rs.map mark ++ ds) f' ∧ i.le i' ∧ St i' L' w ∧ I m rs f' i' L') m0 ⟨[], f, i, L, rfl, Imm.le.refl i, hw, h0⟩ ?_
 rintro m a w1 ⟨rs, f', i', L', rfl, hi, hs, hI⟩
 refine (round m rs f' i' L' hi hI).use (rs.map mark ++ ds) w1 hs _ fun rs' e f'' i'' L'' w'' hi' hs' q => ?_
 have e1 : rs'.map mark ++ (rs.map mark ++ ds) = (rs' ++ rs).map mark ++ ds := by rw [List.map_append, List.append_assoc]
 rw [e1]
 unfold thenQ at q
 cases e with
 | normal =>
   obtain ⟨m', hm, hI'⟩ := q
   exact ⟨m', hm, rs' ++ rs, f'', i'', L'', rfl, hi.trans hi', hs', hI'⟩
 | exit id => exact hR (rs' ++ rs) (.exit id) f'' i'' L'' w'' (hi.trans hi') hs' q
 | ret => exact hR (rs' ++ rs) .ret f'' i'' L'' w'' (hi.trans hi') hs' q
end
section
variable {ρ : Loc} {D : Dom} {S : Nat → Bool → VO → Prop} {i : Imm} {L : SH}
def Loc.wk (ρ : Loc) (K : List (Nat × Obj)) : Loc := ⟨ρ.at_, ρ.cap, K, ρ.good⟩
theorem Loc.wk_ext (ρ : Loc) (K : List (Nat × Obj)) (D : Dom) : Ext0 D ρ (ρ.wk K) := ⟨fun _ _ => rfl, fun _ _ => rfl, rfl⟩
theorem LayP.wk (h : LayP ρ D S i L) (K : List (Nat × Obj)) (hK : ∀ p ∈ K, p ∈ L ∧ ∀ k vo, S k false vo → ρ.at_ k ≠ p.1) : LayP (ρ.wk K) D S i L :=
 ⟨fun k fz vo hk => let ⟨a, b, o, c, d⟩ := h.ok k fz vo hk; ⟨a, b, o, c.ext0 (ρ.wk_ext K D) a b, d⟩, h.inj, hK⟩
theorem LayP.more (h : LayP ρ D S i L) {L' : SH} (hL : ∀ p ∈ L, p ∈ L') : LayP ρ D S i L' :=
 ⟨fun k fz vo hk => by
  obtain ⟨a, b, o, c, d⟩ := h.ok k fz vo hk
  refine ⟨a, b, o, c, ?_⟩
  split at d
  · rename_i hf; rw [if_pos hf]; exact d
  · rename_i hf; rw [if_neg hf]; exact hL _ d, h.inj, fun p hp => ⟨hL _ (h.frm p hp).1, (h.frm p hp).2⟩⟩
structure Marks (ρ : Loc) (S : Nat → Bool → VO → Prop) (rs : List Nat) (L : SH) : Prop where
 nd : rs.Nodup
 own : ∀ r ∈ rs, dblk r ∈ L
 off : ∀ r ∈ rs, ∀ k vo, S k false vo → ρ.at_ k ≠ r
 kp : ∀ r ∈ rs, ∀ p ∈ ρ.keep, p.1 ≠ r
theorem Marks.nil : Marks ρ S [] L := ⟨List.nodup_nil, fun _ h => (by cases h), fun _ h => (by cases h), fun _ h => (by cases h)⟩
def AftM (ρ : Loc) (D : Dom) (n : Nat) (s : Tr VV × VH × Nat) (rs : List Nat) (fr' : Fr) (i' : Imm) (L' : SH) : Prop :=
 ∃ ρ', Ext D ρ ρ' ∧ n ≤ s.2.2 ∧ Slots ρ' (D.upto n s.2.2) s.1 fr' ∧ Lay ρ' (D.upto n s.2.2) s.2.1 i' L' ∧ Marks ρ' (fun k fz vo => get k s.2.1 = some (fz, vo)) rs L'
theorem Aft.toM {n : Nat} {s : Tr VV × VH × Nat} {fr' : Fr} {i' : Imm} {L' : SH} (h : Aft ρ D n s fr' i' L') : AftM ρ D n s [] fr' i' L' := by
 obtain ⟨ρ', h1, h2, h3, h4⟩ := h
 exact ⟨ρ', h1, h2, h3, h4, Marks.nil⟩
def kpm (ρ : Loc) (rs : List Nat) : List (Nat × Obj) := ρ.keep ++ rs.map dblk
theorem Lay.kpm (h : LayP ρ D S i L) {rs : List Nat} (hm : Marks ρ S rs L) : LayP (ρ.wk (Ev.kpm ρ rs)) D S i L := by
 refine h.wk _ fun p hp => ?_
 rcases List.mem_append.1 hp with hp | hp
 · exact h.frm p hp
 · obtain ⟨r, hr, rfl⟩ := List.mem_map.1 hp
   exact ⟨hm.own r hr, hm.off r hr⟩
theorem Slots.wk {f : Tr VV} {fr : Fr} (h : Slots ρ D f fr) (K : List (Nat × Obj)) : Slots (ρ.wk K) D f fr := fun t v hv => ⟨(h t v hv).1, by rw [toV_ext0 (ρ.wk_ext K D) v (h t v hv).1]; exact (h t v hv).2⟩
theorem Glob.wk {Γ : Tab → Plans → Code → Prop} {G : Nat} (h : Glob Γ ρ D G) (K : List (Nat × Obj)) : Glob Γ (ρ.wk K) D G := ⟨h.gd, h.le, h.at_⟩
theorem AftM.step {ρ' : Loc} {n m : Nat} {s : Tr VV × VH × Nat} {S' : Nat → Bool → VO → Prop} {rs rs' : List Nat} {fr' : Fr} {i' : Imm} {L0 L' : SH} (h : AftM (ρ'.wk (kpm ρ' rs)) (D.upto n m) m s rs' fr' i' L') (hm0 : Marks ρ' S' rs L0) (e : Ext D ρ ρ') (hm : n ≤ m) : AftM ρ D n s (rs' ++ rs) fr' i' L' := by
 obtain ⟨ρ2, h1, h2, h3, h4, h5⟩ := h
 have hk : ρ2.keep = ρ'.keep ++ rs.map dblk := h1.keep
 have inM : ∀ r ∈ rs, dblk r ∈ ρ2.keep := fun r hr => by rw [hk]; exact List.mem_append_right _ (List.mem_map.2 ⟨r, hr, rfl⟩)
 have e2 : Ext D ρ (ρ2.wk ρ.keep) := by
  have e3 : Ext0 D ρ' ρ2 := ⟨fun b hb => h1.at_ b (D.le_upto n m b hb), fun b hb => h1.cap b (D.le_upto n m b hb), h1.good⟩
  exact ⟨⟨fun b hb => (e3.at_ b hb).trans (e.at_ b hb), fun b hb => (e3.cap b hb).trans (e.cap b hb), e3.good.trans e.good⟩, rfl⟩
 refine ⟨ρ2.wk ρ.keep, e2, Nat.le_trans hm h2, (h3.mono (upto_upto hm h2)).wk _, ?_, ?_⟩
 · refine (h4.mono (upto_upto hm h2)).wk _ fun p hp => h4.frm p ?_
   rw [hk]; exact List.mem_append_left _ (by rw [e.keep]; exact hp)
 · refine ⟨List.nodup_append.2 ⟨h5.nd, hm0.nd, fun a ha b hb e => ?_⟩, fun r hr => ?_, fun r hr => ?_, fun r hr p hp => ?_⟩
   · subst e
     exact h5.kp a ha (dblk a) (inM a hb) rfl
   · rcases List.mem_append.1 hr with hr | hr
     · exact h5.own r hr
     · exact (h4.frm _ (inM r hr)).1
   · rcases List.mem_append.1 hr with hr | hr
     · exact h5.off r hr
     · exact (h4.frm _ (inM r hr)).2
   · have hp' : p ∈ ρ.keep := hp
     rcases List.mem_append.1 hr with hr | hr
     · exact h5.kp r hr p (by rw [hk]; exact List.mem_append_left _ (by rw [e.keep]; exact hp'))
     · exact hm0.kp r hr p (by rw [e.keep]; exact hp')
theorem forget_ok {h : VH} (hL : Lay ρ D h i L) {k j : Nat} {vo : VO} {o o' : Obj} (hk : get k h = some (false, vo)) (hj : L[j]? = some (ρ.at_ k, o)) : Lay ρ D (del k h) i (L.set j (ρ.at_ k, o')) := by
 have hjl : j < L.length := (List.getElem?_eq_some_iff.1 hj).1
 have stay : ∀ (p : Nat × Obj), p ∈ L → p.1 ≠ ρ.at_ k → p ∈ L.set j (ρ.at_ k, o') := fun p hp hne => by
  obtain ⟨q, hq⟩ := List.getElem?_of_mem hp
  have hqj : q ≠ j := by
   rintro rfl
   rw [hq] at hj
   exact hne (congrArg Prod.fst (Option.some.inj hj))
  exact List.mem_of_getElem? ((List.getElem?_set_ne (by omega)).trans hq)
 refine ⟨fun x fz w hx => ?_, fun x y w w' hx hy e => hL.inj x y w w' (get_del hx).2 (get_del hy).2 e, fun p hp => ⟨stay p (hL.frm p hp).1 fun e => (hL.frm p hp).2 k vo hk e.symm, fun x w hx => (hL.frm p hp).2 x w (get_del hx).2⟩⟩
 obtain ⟨h1, h2⟩ := get_del hx
 obtain ⟨h3, h4, o1, h5, h6⟩ := hL.ok x fz w h2
 refine ⟨h3, h4, o1, h5, ?_⟩
 split at h6
 · rename_i hf; rw [if_pos hf]; exact h6
 · rename_i hf
   rw [if_neg hf]
   have hf' : fz = false := by simpa using hf
   subst hf'
   exact stay _ h6 fun e => h1 (hL.inj x k w vo h2 hk e)
theorem St.putObj {w : World} {j l : Nat} {o : Obj} (h : St i L w) (hj : L[j]? = some (l, o)) (o' : Obj) : St i (L.set j (l, o')) (w.putObj l o') := by
 have hb : w.heap[l]? = some o := h.own _ (List.mem_of_getElem? hj)
 refine h.put hj rfl rfl rfl fun c => ?_
 by_cases hc : c = l
 · subst hc
   rw [if_pos rfl]
   exact World.putObj_heap_same (Array.getElem?_eq_some_iff.1 hb).1
 · rw [if_neg hc, World.putObj_heap_other hc]
end
end
end Go.Eng.Ev
namespace Go.Eng.Ev
noncomputable section
open Go Go.Eng
abbrev St' := Ex × Tr VV × VH × Nat
def lkp (id : Nat) : Plans → Option (List PE × List Nat)
 | [] => none
 | (k, p) :: l => bif Nat.beq k id then some p else lkp id l
def okC (pl : Plans) : Code → Bool
 | .region id ops true => (match lkp id pl with
   | some (p, tl) => planOk ops.toList p tl
   | none => true)
 | .seq a b => okC pl a && okC pl b
 | .cond _ a b => okC pl a && okC pl b
 | .block _ a => okC pl a
 | .loop a => okC pl a
 | .scope a => okC pl a
 | .rangeFunc _ _ a b => okC pl a && okC pl b
 | _ => true
def goodP (P : Program) : Tab → Plans → Code → Prop := fun T pl c => T.ok P ∧ okC pl c = true
def jumpOf : Option Code → Option Ex
 | none => some .normal
 | some .ret => some .ret
 | some (.exit j) => some (.exit j)
 | _ => none
section
variable (T : Tab) (pl : Plans) (N G : Nat) (rd : Option Nat) (cal : Callee)
def rdOk (h : VH) : Bool := match rd with
 | none => true
 | some b => (match get b h with
   | some (false, .loop ..) => true
   | _ => false)
def evRange (g : Operand) (ps : Array Tmp) (assign bd : Code) (f : Tr VV) (h : VH) (n : Nat) : Option St' :=
 match evO N G f g with
 | some (.fn (.func gf) fs cs) => bif rdOk rd h then
  (match cal (.it gf) (fs ++ [.yld n] ++ cs) (set n (false, .loop N f T pl ps.toList assign bd 0 none) h) (n + 1) with
  | some e => (match get n e.h with
    | some (false, .loop _ _ _ _ _ _ _ st pend) => bif Nat.beq st 1 then none else (match jumpOf pend with
      | some ex => some (ex, f, del n e.h, e.n)
      | none => none)
    | _ => none)
  | none => none) else none
 | _ => fl _ 0
def body (ih : Code → Tr VV → VH → Nat → Option St') (c : Code) (f : Tr VV) (h : VH) (n : Nat) : Option St' :=
 match c with
 | .skip => some (.normal, f, h, n)
 | .ret => some (.ret, f, h, n)
 | .exit j => some (.exit j, f, h, n)
 | .region _ ops false => (match evOps T N G cal ops.toList ops.toList f h n with
   | some s => some (.normal, s)
   | none => none)
 | .region id ops true => (match lkp id pl with
   | some (p, tl) => (match getAll ops.toList tl with
     | some tops => (match evD T N G cal ops.toList (n + cntNew p) p ⟨f, h, h, n + cntNew p, n⟩ with
       | some s => (match evOps T N G cal ops.toList tops s.f s.h s.n with
         | some s2 => some (.normal, s2)
         | none => none)
       | none => none)
     | none => none)
   | none => fl _ 0)
 | .seq a b => (match ih a f h n with
   | some (.normal, f', h', n') => tk (ih b f' h' n')
   | r => r)
 | .cond x a b => (match evO N G f x with
   | some (.bool true) => tk (ih a f h n)
   | some (.bool false) => tk (ih b f h n)
   | _ => fl _ 0)
 | .block j a => (match ih a f h n with
   | some (.exit k, s) => bif Nat.beq k j then some (.normal, s) else some (.exit k, s)
   | r => r)
 | .loop a => (match ih a f h n with
   | some (.normal, f', h', n') => tk (ih (.loop a) f' h' n')
   | r => r)
 | .rangeFunc g ps a b => evRange T pl N G rd cal g ps a b f h n
 | .label _ => some (.normal, f, h, n)
 | .scope a => ih a f h n
 | _ => fl _ 0
def evC (fuel : Nat) : Code → Tr VV → VH → Nat → Option St' :=
 Nat.rec (fun _ _ _ _ => none) (fun _ ih c f h n => body T pl N G rd cal ih c f h n) fuel
theorem evC_succ (k : Nat) (c : Code) (f : Tr VV) (h : VH) (n : Nat) : evC T pl N G rd cal (k + 1) c f h n = body T pl N G rd cal (evC T pl N G rd cal k) c f h n := rfl
end
def FOk (ρ : Loc) (D : Dom) (F : Fence) : Option Nat → Prop
 | none => F = Fence.wide
 | some b => F = Fence.wide.inRound (ρ.at_ b) ∧ D b
theorem FOk.wd {ρ : Loc} {D : Dom} {F : Fence} {rd : Option Nat} (h : FOk ρ D F rd) : Wd F := by
 cases rd with
 | none => exact .inl h
 | some b => exact .inr ⟨_, h.1⟩
theorem FOk.ext {ρ ρ' : Loc} {D D' : Dom} {F : Fence} {rd : Option Nat} (h : FOk ρ D F rd) (e : Ext0 D ρ ρ') (hD : D.le D') : FOk ρ' D' F rd := by
 cases rd with
 | none => exact h
 | some b => exact ⟨by rw [e.at_ b h.2]; exact h.1, hD b h.2⟩
theorem FOk.wk {ρ : Loc} {D : Dom} {F : Fence} {rd : Option Nat} (h : FOk ρ D F rd) (K : List (Nat × Obj)) : FOk (ρ.wk K) D F rd := h.ext (ρ.wk_ext K D) (Dom.le.refl D)
section
variable {N G : Nat} {P : Program} {T : Tab} {pl : Plans} {cal : Callee}
theorem jump_wp {F : Fence} {n : Nat} {Q : Exit → Act → World → Prop} {a : Act} {w : World} {ex : Ex} (h : Q ex.to a w) : ∀ (pend : Option Code), (match pend with
 | none => Q .normal a w
 | some c => c.wpIn F n P Q a w) ∨ jumpOf pend ≠ some ex := by
 intro pend
 by_cases hj : jumpOf pend = some ex
 · left
   cases pend with
   | none => cases hj; exact h
   | some c => cases c <;> cases hj <;> first | exact wpIn_ret h | exact wpIn_exit h
 · exact .inr hj
theorem evRange_ok (hT : T.ok P) (hcal : CalOk P (goodP P) G cal) {rd : Option Nat} {g : Operand} {ps : Array Tmp} {assign bd : Code} {ρ : Loc} {D : Dom} {n : Nat} {f : Tr VV} {h : VH} {fr : Fr} {i : Imm} {L : SH} {e : Ex} {s : Tr VV × VH × Nat} {F : Fence}
 (hok : okC pl (.rangeFunc g ps assign bd) = true) (hS : Slots ρ D f fr) (hG : Glob (goodP P) ρ D G) (hL : Lay ρ D h i L) (hD : Fresh D n) (hF : FOk ρ D F rd) (hev : evRange T pl N G rd cal g ps assign bd f h n = some (e, s)) :
 CM P F N (.rangeFunc g ps assign bd) fr i L fun rs e' fr' i' L' => e' = e ∧ AftM ρ D n s rs fr' i' L' := by
 unfold evRange at hev
 split at hev
 · rename_i gf fs cs hg
   cases hrd : rdOk rd h with
   | false => rw [hrd] at hev; cases hev
   | true =>
   rw [hrd] at hev
   simp only [cond_true] at hev
   split at hev
   · rename_i ef hef
     split at hev
     · rename_i N' f' T' pl' ps' as' bd' st pend hgn
       cases hst : Nat.beq st 1 with
       | true => rw [hst] at hev; cases hev
       | false =>
       rw [hst] at hev
       simp only [cond_false] at hev
       split at hev
       · rename_i ex hj
         cases hev
         simp only [okC, Bool.and_eq_true] at hok
         obtain ⟨g1, g2⟩ := evO_ok hS hG hg
         simp only [VV.lt] at g1
         simp only [toV] at g2
         have hgood : ρ.good T pl assign ∧ ρ.good T pl bd := by rw [hG.gd]; exact ⟨⟨hT, hok.1⟩, hT, hok.2⟩
         have main : ∀ (fn l dfr : Nat) (rs : List Nat) (ds : List Deferred) (L1 : SH) (w1 : World) (R : Exit → Act → World → Prop),
          St i ((l, loopR fn N fr ps assign bd dfr .ready) :: L1) w1 → (∀ p ∈ L, p ∈ L1) → Marks ρ (fun k fz vo => get k h = some (fz, vo)) rs L1 → (∀ r ∈ rs, r ≠ l) →
          (∀ rs e' f' i' L' w', i.le i' → St i' L' w' → (e' = e ∧ AftM ρ D n (f, del n ef.h, ef.n) rs f' i' L') → R e'.to (ofD N (rs.map mark ++ ds) f') w') →
          ∃ (d : Deferred) (w₁' : World) (f' : FuncId) (args : Array Value) (w₂ : World), (resolve (ofD N ds fr).eval (rangeCall g l) 0).run P w1 = .ok d w₁' ∧ (∀ f', Target.leads P w₁' d.target d.args = some f' → F.fn f') ∧ (invoke d.target d.args).run P w₁' = .ok (.enter f' args) w₂ ∧
           (F.depth.isSome = true → 1 ≤ 0) ∧ CallsIn F (0 - 1) P f' args w₂ (rangePost F 0 P l R { ofD N ds fr with defers := rs.map mark ++ ds }) := by
          intro fn l dfr rs ds L1 w1 R hst1 hsub hm hrl hR
          have hLa : Lay (ρ.wk (kpm ρ rs)) D h i L1 := Lay.kpm (hL.more hsub) hm
          have hlt : (VO.loop N f T pl ps.toList assign bd 0 none).lt (D.add n) := fun t v hv => VV.lt_mono (D.le_add n) v (hS t v hv).1
          have hholds : Holds ((ρ.wk (kpm ρ rs)).add n l 0) n (.loop N f T pl ps.toList assign bd 0 none) (loopR fn N fr ps assign bd dfr .ready) :=
           ⟨hgood.1, hgood.2, fr, fn, dfr, fun t v hv => by
            rw [toV_ext0 (((ρ.wk_ext _ D)).trans0 ((ρ.wk (kpm ρ rs)).add_ext hD.not l 0).toExt0 (Dom.le.refl D)) v (hS t v hv).1]
            exact (hS t v hv).2, by simp [loopR, stOf]⟩
          have hLb := Lay.push hLa hD.not hst1.nodup hlt hholds
          have hDn : Fresh (D.add n) (n + 1) := fun b hb => by
           rcases hb with hb | rfl
           · have := hD b hb; omega
           · omega
          have hGb : Glob (goodP P) ((ρ.wk (kpm ρ rs)).add n l 0) (D.add n) G := (hG.wk _).ext ((ρ.wk (kpm ρ rs)).add_ext hD.not l 0) (D.le_add n)
          have hargs : VV.lts (D.add n) (fs ++ [.yld n] ++ cs) := lts_app (lts_app (VV.lts_mono (D.le_add n) fs g1.1) (by simp only [VV.lts, VV.lt]; exact ⟨.inr rfl, trivial⟩)) (VV.lts_mono (D.le_add n) cs g1.2)
          obtain ⟨hfn, hfs⟩ := hcal.it _ _ _ _ _ hef _ _ i _ hDn hGb hLb hargs
          have ex0 : Ext0 D ρ ((ρ.wk (kpm ρ rs)).add n l 0) := (ρ.wk_ext _ D).trans0 ((ρ.wk (kpm ρ rs)).add_ext hD.not l 0).toExt0 (Dom.le.refl D)
          have ea : toVs ((ρ.wk (kpm ρ rs)).add n l 0) (fs ++ [.yld n] ++ cs) = toVs ρ fs ++ [Value.func (.yield l) #[] #[]] ++ toVs ρ cs := by
           rw [toVs_app, toVs_app, toVs_ext0 ex0 fs g1.1, toVs_ext0 ex0 cs g1.2]
           simp [toVs, toV, Loc.add]
          rw [ea] at hfs
          refine ⟨{ target := .fn (.func gf) (toVs ρ cs).toArray, args := (toVs ρ fs).toArray ++ #[Value.func (.yield l) #[] #[]] }, w1, gf, ((toVs ρ fs).toArray ++ #[Value.func (.yield l) #[] #[]]) ++ (toVs ρ cs).toArray, w1, ?_, fun _ _ => hF.wd.fn _, ?_, hF.wd.depth, ?_⟩
          · simp only [resolve, ofD_eval, g2]
            simp [Deferred.ofValue, rangeCall, ev, g2]
          · simp [invoke, run_callFunc hfn]
          · refine hF.wd.calls ?_
            have eb : ((toVs ρ fs).toArray ++ #[Value.func (.yield l) #[] #[]]) ++ (toVs ρ cs).toArray = (toVs ρ fs ++ [Value.func (.yield l) #[] #[]] ++ toVs ρ cs).toArray := by simp
            rw [eb]
            refine Calls.mono (hfs w1 hst1) ?_
            rintro en w3 ⟨v, i3, L3, rfl, hi3, hs3, ρ3, k1, k2, k3, k4⟩
            obtain ⟨ob, j, ⟨-, -, fr3, fn3, dfr3, -, rfl⟩, hj3⟩ := Lay.own k3 hgn
            have hat : ρ3.at_ n = l := by rw [k1.at_ n (.inr rfl)]; simp [Loc.add]
            rw [hat] at hj3
            have hheap := hs3.own _ (List.mem_of_getElem? hj3)
            simp only at hheap
            refine ⟨pend, _, run_endLoop hheap (by
             simp only
             intro e0
             have : st ≠ 1 := fun e => by rw [e] at hst; cases hst
             unfold stOf at e0
             split at e0
             · cases e0
             · exact this rfl
             · cases e0), ?_⟩
            have hs4 := St.putObj hs3 hj3 (.loop { state := .exhausted, pending := pend, fn := fn3, tmps := (ofF N' fr3).tmps, params := ps'.toArray, assign := as', body := bd', defers := dfr3 })
            refine (jump_wp ?_ pend).resolve_right (fun q => q hj)
            have hD3 : (D.add n).le (D.upto n ef.n) := fun b hb => by
             rcases hb with hb | rfl
             · exact .inl hb
             · exact .inr ⟨Nat.le_refl b, by have : b + 1 ≤ ef.n := k2; omega⟩
            have hD4 : ((D.add n).upto (n + 1) ef.n).le (D.upto n ef.n) := fun b hb => by
             rcases hb with hb | hb
             · exact hD3 b hb
             · exact .inr ⟨by omega, hb.2⟩
            have e3 : Ext0 D ρ ρ3 := ex0.trans0 k1.toExt0 (D.le_add n)
            have hk3 : ρ3.keep = ρ.keep ++ rs.map dblk := k1.keep
            rw [← hat] at hj3 hs4
            have hLf := (forget_ok (o' := .loop { state := .exhausted, pending := pend, fn := fn3, tmps := (ofF N' fr3).tmps, params := ps'.toArray, assign := as', body := bd', defers := dfr3 }) k3 hgn hj3).mono hD4
            rw [hat] at hs4
            refine hR rs e fr i3 _ _ hi3 hs4 ⟨rfl, ρ3.wk ρ.keep, ⟨⟨e3.at_, e3.cap, e3.good⟩, rfl⟩, by simp only; omega, ?_, ?_, ?_⟩
            · exact Slots.wk (fun t v hv => ⟨VV.lt_mono (D.le_upto n ef.n) v (hS t v hv).1, by rw [toV_ext0 e3 v (hS t v hv).1]; exact (hS t v hv).2⟩) _
            · rw [← hat]
              exact hLf.wk _ fun p hp => hLf.frm p (by rw [hk3]; exact List.mem_append_left _ hp)
            · rw [← hat]
              have inM : ∀ r ∈ rs, dblk r ∈ ρ3.keep := fun r hr => by rw [hk3]; exact List.mem_append_right _ (List.mem_map.2 ⟨r, hr, rfl⟩)
              exact ⟨hm.nd, fun r hr => (hLf.frm _ (inM r hr)).1, fun r hr => (hLf.frm _ (inM r hr)).2, fun r hr p hp => hm.kp r hr p hp⟩
         unfold CM
         intro ds w hw R hR
         refine wpIn_rangeFunc fun fn _ => ?_
         cases rd with
         | none =>
           have hF' : F = Fence.wide := hF
           subst hF'
           have hs1 := hw.push (w' := w.alloc (.deferred (some []))) (o := .deferred (some [])) rfl rfl rfl rfl
           have hs2 := hs1.push (w' := (w.alloc (.deferred (some []))).alloc (loopR fn N fr ps assign bd w.heap.size .ready)) (o := loopR fn N fr ps assign bd w.heap.size .ready) rfl rfl rfl rfl
           have hsz : (w.alloc (.deferred (some []))).heap.size = w.heap.size + 1 := World.size_alloc ..
           rw [hsz] at hs2
           have hnew : ∀ p ∈ L, p.1 ≠ w.heap.size := fun p hp e => by
            have h1 := hw.own p hp
            rw [e] at h1
            have := (Array.getElem?_eq_some_iff.1 h1).1
            omega
           obtain ⟨d, w1', f1, args, w2, k1, k2, k3, k4, k5⟩ := main fn (w.heap.size + 1) w.heap.size [w.heap.size] ds (dblk w.heap.size :: L) _ R hs2 (fun p hp => List.mem_cons_of_mem _ hp)
            ⟨by simp, fun r hr => by rw [List.mem_singleton] at hr; subst hr; simp, fun r hr k vo hk e => by
             rw [List.mem_singleton] at hr; subst hr
             obtain ⟨_, _, o, _, h4⟩ := hL.ok k false vo hk
             exact hnew _ (by simpa using h4) e, fun r hr p hp => by rw [List.mem_singleton] at hr; subst hr; exact hnew p (hL.frm p hp).1⟩ (fun r hr => by rw [List.mem_singleton] at hr; omega) hR
           refine ⟨_, _, _, d, w1', f1, args, w2, ?_, k1, k2, k3, k4, k5⟩
           have : (ofD N ds fr).tmps = (ofF N fr).tmps := rfl
           rw [this]
           exact run_enterLoop_outer _ _ _ _ _
         | some b0 =>
           obtain ⟨hF', hDb⟩ := hF
           subst hF'
           have hrd' : ∃ N0 f0 T0 pl0 ps0 as0 bd0 st0 pe0, get b0 h = some (false, .loop N0 f0 T0 pl0 ps0 as0 bd0 st0 pe0) := by
            unfold rdOk at hrd
            simp only at hrd
            split at hrd
            · rename_i h0; exact ⟨_, _, _, _, _, _, _, _, _, h0⟩
            · cases hrd
           obtain ⟨N0, f0, T0, pl0, ps0, as0, bd0, st0, pe0, hb0⟩ := hrd'
           obtain ⟨_, _, o0, ⟨_, _, fr0, fn0, dfr0, _, rfl⟩, hmem⟩ := hL.ok b0 false _ hb0
           have hl0 := hw.own _ (show (ρ.at_ b0, _) ∈ L by simpa using hmem)
           have hs2 := hw.push (w' := w.alloc (loopR fn N fr ps assign bd dfr0 .ready)) (o := loopR fn N fr ps assign bd dfr0 .ready) rfl rfl rfl rfl
           obtain ⟨d, w1', f1, args, w2, k1, k2, k3, k4, k5⟩ := main fn w.heap.size dfr0 [] ds L _ R hs2 (fun p hp => hp) Marks.nil (fun r hr => by cases hr) hR
           refine ⟨_, _, _, d, w1', f1, args, w2, ?_, k1, k2, k3, k4, k5⟩
           have : (ofD N ds fr).tmps = (ofF N fr).tmps := rfl
           rw [this]
           exact run_enterLoop_inner hl0 _ _ _ _ _
       · cases hev
     · cases hev
   · cases hev
 · cases hev
end
end
end Go.Eng.Ev
namespace Go.Eng.Ev
noncomputable section
open Go Go.Eng
section
variable {N G : Nat} {P : Program} {T : Tab} {pl : Plans} {cal : Callee} {rd : Option Nat}
theorem evC_ok (hm : P.follows .mixedOrders = true) (hT : T.ok P) (hcal : CalOk P (goodP P) G cal) : ∀ (fuel : Nat) (c : Code) (ρ : Loc) (D : Dom) (n : Nat) (f : Tr VV) (h : VH) (fr : Fr) (i : Imm) (L : SH) (e : Ex) (s : Tr VV × VH × Nat) (F : Fence),
 okC pl c = true → Slots ρ D f fr → Glob (goodP P) ρ D G → Lay ρ D h i L → Fresh D n → FOk ρ D F rd →
 evC T pl N G rd cal fuel c f h n = some (e, s) → CM P F N c fr i L fun rs e' fr' i' L' => e' = e ∧ AftM ρ D n s rs fr' i' L' := by
 intro fuel
 induction fuel using Nat.strongRecOn with
 | _ fuel ihs =>
 intro c ρ D n f h fr i L e s F hok hS hG hL hD hF hev
 cases fuel with
 | zero => cases hev
 | succ k =>
 have ih := ihs k (Nat.lt_succ_self k)
 have self : AftM ρ D n (f, h, n) [] fr i L := ⟨ρ, Ext.refl D ρ, Nat.le_refl n, hS.mono (D.le_upto n n), hL.mono (D.le_upto n n), Marks.nil⟩
 have plain : ∀ {c : Code} {e : Ex} {s : Tr VV × VH × Nat}, CS P N c fr i L (fun e' fr' i' L' => e' = e ∧ Aft ρ D n s fr' i' L') → CM P F N c fr i L fun rs e' fr' i' L' => e' = e ∧ AftM ρ D n s rs fr' i' L' := by
  intro c e s hc
  exact CM.mono (CM.of hF.wd (Q := fun rs e' fr' i' L' => rs = [] ∧ e' = e ∧ Aft ρ D n s fr' i' L') (CS.mono hc fun e' fr' i' L' _ q => ⟨rfl, q⟩)) fun rs e' fr' i' L' _ ⟨h1, h2, h3⟩ => ⟨h2, by subst h1; exact h3.toM⟩
 have self' : Aft ρ D n (f, h, n) fr i L := ⟨ρ, Ext.refl D ρ, Nat.le_refl n, hS.mono (D.le_upto n n), hL.mono (D.le_upto n n)⟩
 rw [evC_succ] at hev
 unfold body at hev
 split at hev
 · cases hev; exact plain (CS.skip ⟨rfl, self'⟩)
 · cases hev; exact plain (CS.ret ⟨rfl, self'⟩)
 · cases hev; exact plain (CS.exit ⟨rfl, self'⟩)
 · rename_i id ops
   split at hev
   · rename_i s' hs
     cases hev
     have := CS.region (id := id) (Q := fun e' fr' i' L' => e' = Ex.normal ∧ Aft ρ D n s fr' i' L') (RS.mono' (evOps_ok hT hcal hS hG hL hD hs) fun fr' i' L' k => ⟨rfl, k⟩)
     exact plain (by simpa using this)
   · cases hev
 · rename_i id ops
   split at hev
   · rename_i p tl hp
     split at hev
     · rename_i tops htops
       split at hev
       · rename_i s' hs
         split at hev
         · rename_i s2 hs2
           cases hev
           have hpo : planOk ops.toList p tl = true := by unfold okC at hok; rw [hp] at hok; exact hok
           have := evD_ok (id := id) hm hT hcal hpo htops hS hG hL hD (Nat.le_add_right _ _) hs hs2
           exact plain (by simpa using this)
         · cases hev
       · cases hev
     · cases hev
   · cases hev
 · rename_i a b
   simp only [okC, Bool.and_eq_true] at hok
   split at hev
   · rename_i f' h' n' ha
     refine CM.seq (CM.mono (ih a ρ D n f h fr i L _ _ F hok.1 hS hG hL hD hF ha) ?_)
     rintro rs e' fr' i' L' _ ⟨rfl, ρ', h1, h2, h3, h4, h5⟩
     refine thenQ.normal (CM.mono (ih b (ρ'.wk (kpm ρ' rs)) (D.upto n n') n' f' h' fr' i' L' e s F hok.2 (h3.wk _) ((hG.ext h1 (D.le_upto n n')).wk _) (Lay.kpm h4 h5) (hD.upto h2) ((hF.ext h1.toExt0 (D.le_upto n n')).wk _) hev) ?_)
     rintro rs' e2 fr2 i2 L2 _ ⟨rfl, k⟩
     exact ⟨rfl, k.step h5 h1 h2⟩
   · rename_i hne
     refine CM.seq (CM.mono (ih a ρ D n f h fr i L e s F hok.1 hS hG hL hD hF hev) ?_)
     rintro rs e' fr' i' L' _ ⟨rfl, k⟩
     cases e' with
     | normal => exact absurd hev (hne _ _ _)
     | exit j => exact thenQ.exit ⟨rfl, k⟩
     | ret => exact thenQ.ret ⟨rfl, k⟩
 · rename_i x a b
   simp only [okC, Bool.and_eq_true] at hok
   split at hev
   · rename_i hx
     have h1 := (evO_ok hS hG hx).2
     simp only [toV] at h1
     exact CM.cond_true h1 (ih a ρ D n f h fr i L e s F hok.1 hS hG hL hD hF hev)
   · rename_i hx
     have h1 := (evO_ok hS hG hx).2
     simp only [toV] at h1
     exact CM.cond_false h1 (ih b ρ D n f h fr i L e s F hok.2 hS hG hL hD hF hev)
   · cases hev
 · rename_i j a
   simp only [okC] at hok
   split at hev
   · rename_i q s' ha
     cases hb : Nat.beq q j with
     | true =>
       rw [hb] at hev
       cases hev
       have := Nat.eq_of_beq_eq_true hb
       subst this
       refine CM.block (CM.mono (ih a ρ D n f h fr i L _ _ F hok hS hG hL hD hF ha) ?_)
       rintro rs e' fr' i' L' _ ⟨rfl, k⟩
       exact blkQ.here ⟨rfl, k⟩
     | false =>
       rw [hb] at hev
       cases hev
       refine CM.block (CM.mono (ih a ρ D n f h fr i L _ _ F hok hS hG hL hD hF ha) ?_)
       rintro rs e' fr' i' L' _ ⟨rfl, k⟩
       exact blkQ.past hb ⟨rfl, k⟩
   · rename_i hne
     refine CM.block (CM.mono (ih a ρ D n f h fr i L e s F hok hS hG hL hD hF hev) ?_)
     rintro rs e' fr' i' L' _ ⟨rfl, k⟩
     cases e' with
     | normal => exact blkQ.normal ⟨rfl, k⟩
     | exit j => exact absurd hev (hne _ _)
     | ret => exact blkQ.ret ⟨rfl, k⟩
 · rename_i a
   have hok' : okC pl a = true := by simp only [okC] at hok; exact hok
   have hev' : evC T pl N G rd cal (k + 1) (.loop a) f h n = some (e, s) := by rw [evC_succ]; unfold body; exact hev
   refine CM.loopF (fun m rs g i' L' => m ≤ k + 1 ∧ ∃ ρ' f1 h1 n1, Ext D ρ ρ' ∧ n ≤ n1 ∧ Slots ρ' (D.upto n n1) f1 g ∧ Lay ρ' (D.upto n n1) h1 i' L' ∧ Marks ρ' (fun k fz vo => get k h1 = some (fz, vo)) rs L' ∧ evC T pl N G rd cal m (.loop a) f1 h1 n1 = some (e, s)) (k + 1) ⟨Nat.le_refl _, ρ, f, h, n, Ext.refl D ρ, Nat.le_refl n, hS.mono (D.le_upto n n), hL.mono (D.le_upto n n), Marks.nil, hev'⟩ ?_
   rintro m rs g i' L' _ ⟨hmk, ρ', f1, h1, n1, k1, k2, k3, k4, k4m, k5⟩
   cases m with
   | zero => cases k5
   | succ m =>
   have ihm := ihs m (by omega)
   rw [evC_succ] at k5
   unfold body at k5
   simp only at k5
   split at k5
   · rename_i f' h' n' ha
     refine CM.mono (ihm a (ρ'.wk (kpm ρ' rs)) (D.upto n n1) n1 f1 h1 g i' L' _ _ F hok' (k3.wk _) ((hG.ext k1 (D.le_upto n n1)).wk _) (Lay.kpm k4 k4m) (hD.upto k2) ((hF.ext k1.toExt0 (D.le_upto n n1)).wk _) ha) ?_
     rintro rs' e' fr' i'' L'' _ ⟨rfl, q⟩
     obtain ⟨ρ2, q1, q2, q3, q4, q5⟩ := q.step k4m k1 k2
     exact thenQ.normal ⟨m, Nat.lt_succ_self m, by omega, ρ2, f', h', n', q1, q2, q3, q4, q5, k5⟩
   · rename_i hne
     refine CM.mono (ihm a (ρ'.wk (kpm ρ' rs)) (D.upto n n1) n1 f1 h1 g i' L' e s F hok' (k3.wk _) ((hG.ext k1 (D.le_upto n n1)).wk _) (Lay.kpm k4 k4m) (hD.upto k2) ((hF.ext k1.toExt0 (D.le_upto n n1)).wk _) k5) ?_
     rintro rs' e' fr' i'' L'' _ ⟨rfl, q⟩
     cases e' with
     | normal => exact absurd k5 (hne _ _ _)
     | exit j => exact thenQ.exit ⟨rfl, q.step k4m k1 k2⟩
     | ret => exact thenQ.ret ⟨rfl, q.step k4m k1 k2⟩
 · exact evRange_ok hT hcal hok hS hG hL hD hF hev
 · cases hev
   exact CM.label hF.wd ⟨rfl, self⟩
 · rename_i a
   simp only [okC] at hok
   exact CM.scope (ih a ρ D n f h fr i L e s F hok hS hG hL hD hF hev)
 · cases hev
end
end
end Go.Eng.Ev
namespace Go.Eng.Ev
noncomputable section
open Go Go.Eng
def argV : Nat → List VV → Tr VV
 | _, [] => .lf
 | k, a :: l => set k a (argV (k + 1) l)
theorem argV_ok {ρ : Loc} {D : Dom} : ∀ {l : List VV} {k : Nat}, VV.lts D l → Slots ρ D (argV k l) (argF k (toVs ρ l))
 | [], k, _ => fun t v h => by rw [argV, get_lf] at h; cases h
 | a :: l, k, hl => by
   simp only [VV.lts] at hl
   simp only [argV, toVs, argF]
   exact (argV_ok hl.2).upd hl.1
def getN (N : Nat) (f : Tr VV) (t : Nat) : Option VV := bif Nat.blt t N then get t f else none
theorem getN_ok {ρ : Loc} {D : Dom} {N : Nat} {f : Tr VV} {fr : Fr} (hS : Slots ρ D f fr) {t : Nat} {v : VV} (h : getN N f t = some v) : v.lt D ∧ ev N fr (.tmp t) = toV ρ v := by
 unfold getN at h
 cases hb : Nat.blt t N with
 | false => rw [hb] at h; cases h
 | true =>
   rw [hb] at h
   have := hS t v h
   simp only [ev, hb, cond_true]
   exact this
def resO (T : Tab) (N : Nat) (f : Tr VV) (h : VH) : ResultVar → Option VV
 | .tmp t => getN N f t
 | .cell a t => evRead T N 0 f h (.load t (.tmp a))
def resL (T : Tab) (N : Nat) (f : Tr VV) (h : VH) : List ResultVar → Option (List VV)
 | [] => some []
 | r :: l => (match resO T N f h r with
   | some v => (match resL T N f h l with
     | some vs => some (v :: vs)
     | none => none)
   | none => none)
def resV (T : Tab) (N : Nat) (f : Tr VV) (h : VH) (l : List ResultVar) : Option VV :=
 match resL T N f h l with
 | some [v] => some v
 | some vs => some (.tup vs)
 | none => none
def resM (tmps : Array Value) : ResultVar → Sem Value
 | .tmp t => pure (tmps.getD t undef)
 | .cell a t => do loadVar t (← asAddr (tmps.getD a undef))
section
variable {Γ : Tab → Plans → Code → Prop} {ρ : Loc} {D : Dom} {N : Nat} {f : Tr VV} {h : VH} {fr : Fr} {i : Imm} {L : SH} {P : Program} {T : Tab}
theorem resO_ok (hT : T.ok P) (hS : Slots ρ D f fr) (hL : Lay ρ D h i L) {r : ResultVar} {v : VV} (he : resO T N f h r = some v) : v.lt D ∧ ∀ w, St i L w → (resM (ofF N fr).tmps r).run P w = .ok (toV ρ v) w := by
 cases r with
 | tmp t =>
   obtain ⟨h1, h2⟩ := getN_ok hS he
   refine ⟨h1, fun w _ => ?_⟩
   simp only [resM]
   rw [← h2]
   simp [evt]
 | cell a t =>
   have hG : Glob ρ.good ρ D 0 := ⟨rfl, fun b hb => absurd hb (Nat.not_lt_zero b), fun b hb => absurd hb (Nat.not_lt_zero b)⟩
   obtain ⟨h1, h2⟩ := evRead_ok (dst := none) (ty := 0) (pos := "") (aft := #[]) (gd := none) hT hS hG hL (show evRead T N 0 f h (.load t (.tmp a)) = some v from he)
   refine ⟨h1, fun w hw => ?_⟩
   unfold LV at h2
   have h3 := h2 w hw
   simp only [resO, evRead] at he
   split at he
   · rename_i k off hx
     have h4 := (evO_ok hS hG hx).2
     simp only [toV] at h4
     have h5 : (ofF N fr).tmps.getD a undef = .pointer (some ⟨ρ.at_ k, off, none⟩) := by rw [← h4]; simp [evt]
     simp only [resM, h5]
     simp only [execOp, h4, Instr.loadAt, Instr.sureAddr] at h3
     simp at h3
     have h6 : (asAddr (.pointer (some ⟨ρ.at_ k, off, none⟩))).run P w = .ok ⟨ρ.at_ k, off, none⟩ w := by simp [asAddr]
     simp [h6]
     generalize (loadVar t ⟨ρ.at_ k, off, none⟩).run P w = q at h3
     cases q with
     | ok u w' => simp [Result.andThen] at h3; obtain ⟨rfl, rfl⟩ := h3; rfl
     | _ => simp [Result.andThen] at h3
   · cases he
theorem resL_ok (hT : T.ok P) (hS : Slots ρ D f fr) (hL : Lay ρ D h i L) : ∀ {l : List ResultVar} {vs : List VV}, resL T N f h l = some vs → VV.lts D vs ∧ ∀ w, St i L w → (l.mapM (resM (ofF N fr).tmps)).run P w = .ok (toVs ρ vs) w
 | [], vs, he => by cases he; exact ⟨by simp only [VV.lts], fun w _ => by simp [toVs]⟩
 | r :: l, vs, he => by
   simp only [resL] at he
   split at he
   · rename_i v hv
     split at he
     · rename_i vs' hvs
       cases he
       obtain ⟨h1, h2⟩ := resO_ok hT hS hL hv
       obtain ⟨h3, h4⟩ := resL_ok hT hS hL hvs
       exact ⟨by simp only [VV.lts]; exact ⟨h1, h3⟩, fun w hw => by simp [h2 w hw, h4 w hw, toVs]⟩
     · cases he
   · cases he
theorem results_ok (hT : T.ok P) (hS : Slots ρ D f fr) (hL : Lay ρ D h i L) {fn : Func} {v : VV} (he : resV T N f h fn.results.toList = some v) : v.lt D ∧ ∀ w, St i L w → (results fn (ofF N fr).tmps).run P w = .ok (toV ρ v) w := by
 have key : ∀ vs : List VV, resL T N f h fn.results.toList = some vs → VV.lts D vs ∧ ∀ w, St i L w → (fn.results.mapM (resM (ofF N fr).tmps)).run P w = .ok (toVs ρ vs).toArray w := fun vs hvs => by
  obtain ⟨h1, h2⟩ := resL_ok hT hS hL hvs
  refine ⟨h1, fun w hw => ?_⟩
  rw [Array.mapM_eq_mapM_toList]
  simp [h2 w hw]
 have hfn : results fn (ofF N fr).tmps = (do let vs ← fn.results.mapM (resM (ofF N fr).tmps); pure (if h : vs.size = 1 then vs[0] else .tuple vs)) := by
  unfold results resM
  rfl
 unfold resV at he
 split at he
 · rename_i v' hvs
   cases he
   obtain ⟨h1, h2⟩ := key _ hvs
   simp only [VV.lts] at h1
   refine ⟨h1.1, fun w hw => ?_⟩
   rw [hfn]
   simp [h2 w hw, toVs]
 · rename_i vs hne hvs
   cases he
   obtain ⟨h1, h2⟩ := key _ hvs
   refine ⟨by simp only [VV.lt]; exact h1, fun w hw => ?_⟩
   have hlen : (toVs ρ vs).length ≠ 1 := by
    rw [toVs_len]
    intro h
    obtain ⟨a, rfl⟩ := List.length_eq_one_iff.1 h
    exact hne a rfl
   rw [hfn]
   simp [h2 w hw, toV, hlen]
 · cases he
end
inductive Ent where
 | code (fn : Func) (pl : Plans) (T : Tab)
 | con (c : List VV → VH → Nat → Option Eff)
abbrev FTab := Nat → Option Ent
def okF (fn : Func) (pl : Plans) : Bool := match fn.body with
 | some c => okC pl c
 | none => true
def ConOk (P : Program) (G g : Nat) (c : List VV → VH → Nat → Option Eff) : Prop := ∀ vs h n e, c vs h n = some e → ∀ (ρ : Loc) (D : Dom) (i : Imm) (L : SH), Fresh D n → Glob (goodP P) ρ D G → Lay ρ D h i L → VV.lts D vs → CallS P g (toVs ρ vs) i L (Post ρ D n e)
def FTab.ok (P : Program) (G : Nat) (F : FTab) : Prop := ∀ g x, F g = some x → match x with
 | .code fn pl T => P.funcs[g]? = some fn ∧ fnOk P g = true ∧ okF fn pl = true ∧ T.ok P
 | .con c => ConOk P G g c
def fin (T : Tab) (N : Nat) (rs : List ResultVar) (r : Option St') : Option Eff :=
 match r with
 | some (.exit _, _) => none
 | some (_, f, h, n) => (match resV T N f h rs with
   | some v => some ⟨some v, h, n⟩
   | none => fl _ 0)
 | none => none
def actC (G k : Nat) (ih : Callee) (fn : Func) (pl : Plans) (T : Tab) (vs : List VV) (h : VH) (n : Nat) : Option Eff :=
 match fn.body with
 | some c => bif Nat.ble vs.length fn.ntmps then fin T fn.ntmps fn.results.toList (evC T pl fn.ntmps G none ih k c (argV 0 vs) h n) else none
 | none => fl _ 0
def updPV (f : Tr VV) : List Nat → List VV → Tr VV
 | p :: ps, v :: vs => updPV (set p v f) ps vs
 | _, _ => f
def roundV (G k : Nat) (ih : Callee) (b : Nat) (vs : List VV) (h : VH) (n : Nat) : Option Eff :=
 match get b h with
 | some (false, .loop N f T pl ps assign bd 0 _) => bif Nat.beq vs.length ps.length then
  (match evC T pl N G (some b) ih k assign (updPV f ps vs) h n with
  | some (.normal, f2, h2, n2) => (match get b h2 with
    | some (false, .loop N2 f2' T2 pl2 ps2 as2 bd2 0 pe2) => (match evC T pl N G (some b) ih k bd f2 (set b (false, .loop N2 f2' T2 pl2 ps2 as2 bd2 1 pe2) h2) n2 with
      | some (ex, _, h4, n4) => (match get b h4 with
        | some (false, .loop N4 f4' T4 pl4 ps4 as4 bd4 _ _) => (match ex with
          | .normal => some ⟨some (.bool true), set b (false, .loop N4 f4' T4 pl4 ps4 as4 bd4 0 none) h4, n4⟩
          | .ret => some ⟨some (.bool false), set b (false, .loop N4 f4' T4 pl4 ps4 as4 bd4 2 (some .ret)) h4, n4⟩
          | .exit j => some ⟨some (.bool false), set b (false, .loop N4 f4' T4 pl4 ps4 as4 bd4 2 (some (.exit j))) h4, n4⟩)
        | _ => none)
      | none => none)
    | _ => none)
  | _ => none) else none
 | _ => none
def act (F : FTab) (G k : Nat) (ih : Callee) : Callee := fun t vs h n => (match t with
 | .fn g => (match F g with
   | some (.code fn pl T) => actC G k ih fn pl T vs h n
   | some (.con c) => c vs h n
   | none => fl _ 0)
 | .it g => (match F g with
   | some (.code fn pl T) => actC G k ih fn pl T vs h n
   | _ => fl _ 0)
 | .yld b => roundV G k ih b vs h n)
def evFn (F : FTab) (G k : Nat) (d : Nat) : Callee :=
 Nat.rec (fun _ _ _ _ => none) (fun _ ih => act F G k ih) d
theorem evFn_succ (F : FTab) (G k d : Nat) : evFn F G k (d + 1) = act F G k (evFn F G k d) := rfl
theorem marks_out : ∀ {rs : List Nat} {L : SH}, rs.Nodup → (∀ r ∈ rs, dblk r ∈ L) → ∃ L0, L.Perm (L0 ++ rs.map dblk)
 | [], L, _, _ => ⟨L, by simp⟩
 | r :: rs, L, hn, h => by
   obtain ⟨A, B, hab⟩ := List.append_of_mem (h r (by simp))
   rw [List.nodup_cons] at hn
   have hin : ∀ q ∈ rs, dblk q ∈ A ++ B := fun q hq => by
    have h1 := h q (List.mem_cons_of_mem _ hq)
    rw [hab, List.mem_append, List.mem_cons] at h1
    rcases h1 with h1 | h1 | h1
    · exact List.mem_append_left _ h1
    · have : q = r := congrArg Prod.fst h1
      exact absurd (this ▸ hq) hn.1
    · exact List.mem_append_right _ h1
   obtain ⟨L0, h0⟩ := marks_out hn.2 hin
   refine ⟨L0, ?_⟩
   rw [hab, List.map_cons]
   exact (List.perm_middle).trans ((List.Perm.cons _ h0).trans (List.perm_middle).symm)
theorem FnS.bodyM {P : Program} {g : FuncId} {fn : Func} {c : Code} {args : List Value} {i : Imm} {L : SH} {Post : Value → Imm → SH → Prop} {n : Nat} (hf : P.funcs[g]? = some fn) (hb : fn.body = some c) (hn : fn.ntmps = n) (hl : args.length ≤ n)
 (h : CM P Fence.wide n c (argF 0 args) i L fun rs e f i' L' => (∀ j, e ≠ .exit j) ∧ ∃ L0, L'.Perm (L0 ++ rs.map dblk) ∧ ∃ v, (∀ w, St i' L0 w → (results fn (ofF n f).tmps).run P w = .ok v w) ∧ Post v i' L0) : FnS P g args i L Post := by
 intro w hw
 refine (callsIn_wide (n := 0)).1 (callsIn_of_wp_marks hf hb trivial ?_)
 rw [hn, argF_act n args hl]
 refine h.use [] w hw _ fun rs e f i' L' w' hi hs q => ?_
 obtain ⟨hne, L0, hp, v, hv, hpost⟩ := q
 have key : ∀ (rs : List Nat) (L0 : SH) (w' : World), St i' (L0 ++ rs.map dblk) w' → Post v i' L0 → (∀ w, St i' L0 w → (results fn (ofF n f).tmps).run P w = .ok v w) → LeavesInM Fence.wide 0 P fn (ofD n (rs.map mark) f).tmps (fun e w' => ∃ v i' L', e = .returned v ∧ i.le i' ∧ St i' L' w' ∧ Post v i' L') (rs.map mark) .returning w' := by
  intro rs
  induction rs with
  | nil =>
    intro L0 w' hs hp hv
    have hs' : St i' L0 w' := by simpa using hs
    exact ⟨v, hv w' hs', _, i', L0, rfl, hi, hs', hp⟩
  | cons r0 rs ih =>
    intro L0 w' hs hp hv
    refine ⟨by simp, .inl ⟨r0, _, rfl, run_takeDeferred (ds := []) (hs.own (dblk r0) (by simp)), ?_⟩⟩
    have hs1 : St i' (L0 ++ (r0, .deferred (some [])) :: rs.map dblk) w' := hs
    obtain ⟨_, hs2⟩ := St.putMid (o' := .deferred none) hs1
    exact ih L0 _ (hs2.perm List.perm_middle).drop hp hv
 have k2 := key rs L0 w' (hs.perm hp) hpost hv
 have e1 : rs.map mark ++ [] = rs.map mark := by simp
 rw [e1]
 cases e with
 | exit j => exact absurd rfl (hne j)
 | normal => exact k2
 | ret => exact k2
section
variable {P : Program} {G k : Nat} {ih : Callee}
theorem actC_ok (hm : P.follows .mixedOrders = true) (hcal : CalOk P (goodP P) G ih) {g : Nat} {fn : Func} {pl : Plans} {T : Tab} {vs : List VV} {h : VH} {n : Nat} {e : Eff} (hf : P.funcs[g]? = some fn) (hpl : okF fn pl = true) (hT : T.ok P) (he : actC G k ih fn pl T vs h n = some e)
 {ρ : Loc} {D : Dom} {i : Imm} {L : SH} (hD : Fresh D n) (hG : Glob (goodP P) ρ D G) (hL : Lay ρ D h i L) (hvs : VV.lts D vs) : FnS P g (toVs ρ vs) i L (Post ρ D n e) := by
 unfold actC at he
 split at he
 · rename_i c hc
   cases hb : Nat.ble vs.length fn.ntmps with
   | false => rw [hb] at he; cases he
   | true =>
     rw [hb] at he
     simp only [cond_true] at he
     have hlen : (toVs ρ vs).length ≤ fn.ntmps := by rw [toVs_len]; exact Nat.le_of_ble_eq_true hb
     unfold fin at he
     split at he
     · cases he
     · rename_i e0 f' h' n' hne hs
       split at he
       · rename_i v hv
         cases he
         refine FnS.bodyM hf hc rfl hlen (CM.mono (evC_ok hm hT hcal k c ρ D n _ h _ i L e0 _ Fence.wide (by unfold okF at hpl; rw [hc] at hpl; exact hpl) (argV_ok hvs) hG hL hD (show FOk ρ D Fence.wide none from rfl) hs) ?_)
         rintro rs e1 fr i' L' _ ⟨rfl, ρ', k1, k2, k3, k4, k5⟩
         refine ⟨fun j => hne j, ?_⟩
         obtain ⟨L0, hp⟩ := marks_out k5.nd k5.own
         have hin : ∀ p ∈ L', (∀ r ∈ rs, p.1 ≠ r) → p ∈ L0 := fun p hp' hne => by
          have := hp.mem_iff.1 hp'
          rcases List.mem_append.1 this with h1 | h1
          · exact h1
          · obtain ⟨r, hr, rfl⟩ := List.mem_map.1 h1
            exact absurd rfl (hne r hr)
         have hL0 : Lay ρ' (D.upto n n') h' i' L0 := by
          refine ⟨fun k fz vo hk => ?_, k4.inj, fun p hp' => ⟨hin p (k4.frm p hp').1 fun r hr => k5.kp r hr p hp', (k4.frm p hp').2⟩⟩
          obtain ⟨a1, a2, o, a3, a4⟩ := k4.ok k fz vo hk
          refine ⟨a1, a2, o, a3, ?_⟩
          split at a4
          · rename_i hf; rw [if_pos hf]; exact a4
          · rename_i hf
            rw [if_neg hf]
            have hf' : fz = false := by simpa using hf
            subst hf'
            exact hin _ a4 fun r hr => k5.off r hr k vo hk
         obtain ⟨h1, h2⟩ := results_ok hT k3 hL0 hv
         exact ⟨L0, hp, _, h2, ρ', k1, k2, hL0, fun v' hv' => by cases hv'; exact ⟨h1, rfl⟩⟩
       · cases he
     · cases he
 · cases he
theorem updPV_ok {ρ : Loc} {D : Dom} : ∀ {ps : List Nat} {vs : List VV} {f : Tr VV} {fr : Fr}, VV.lts D vs → Slots ρ D f fr → Slots ρ D (updPV f ps vs) (updP fr ps (toVs ρ vs))
 | [], vs, f, fr, _, h => by cases vs <;> simpa [updPV, updP, toVs] using h
 | _ :: _, [], f, fr, _, h => by simpa [updPV, updP, toVs] using h
 | p :: ps, v :: vs, f, fr, hv, h => by
   simp only [VV.lts] at hv
   simp only [updPV, updP, toVs]
   exact updPV_ok hv.2 (h.upd hv.1)
theorem round_ok (hm : P.follows .mixedOrders = true) (hcal : CalOk P (goodP P) G ih) {b : Nat} {vs : List VV} {h : VH} {n : Nat} {e : Eff} (he : roundV G k ih b vs h n = some e)
 {ρ : Loc} {D : Dom} {i : Imm} {L : SH} (hD : Fresh D n) (hG : Glob (goodP P) ρ D G) (hL : Lay ρ D h i L) (hb : D b) (hvs : VV.lts D vs) : YieldS P (ρ.at_ b) (toVs ρ vs) i L fun c i' L' => Post ρ D n e (.bool c) i' L' := by
 unfold roundV at he
 split at he
 · rename_i N f T pl ps assign bd pe hgb
   cases hlen : Nat.beq vs.length ps.length with
   | false => rw [hlen] at he; cases he
   | true =>
   rw [hlen] at he
   simp only [cond_true] at he
   split at he
   · rename_i f2 h2 n2 hev1
     split at he
     · rename_i N2 f2' T2 pl2 ps2 as2 bd2 pe2 hg2
       split at he
       · rename_i ex f4 h4 n4 hev2
         split at he
         · rename_i N4 f4' T4 pl4 ps4 as4 bd4 st4 pe4 hg4
           obtain ⟨ob, j, ⟨gd1, gd2, fr, fn, dfr, hfr, rfl⟩, hj⟩ := Lay.own hL hgb
           have hlt := (hL.ok _ _ _ hgb).2.1
           rw [hG.gd] at gd1 gd2
           have hlen' := Nat.eq_of_beq_eq_true hlen
           intro w hw
           have hl := hw.own _ (List.mem_of_getElem? hj)
           simp only at hl
           refine ⟨_, _, _, _, run_yield hl (by simp [toVs_len, hlen']), roundIn_of_wpIn trivial ?_⟩
           have ht : ((ps.toArray.zip (toVs ρ vs).toArray).foldl (fun tmps (t, a) => tmps.setIfInBounds t a) (ofF N fr).tmps) = (ofF N (updP fr ps (toVs ρ vs))).tmps := by
            rw [← updP_eq N [] ps (toVs ρ vs) fr]
            simp only [← Array.foldl_toList, Array.toList_zip]
           have ht' : ({ tmps := (ps.toArray.zip (toVs ρ vs).toArray).foldl (fun tmps (t, a) => tmps.setIfInBounds t a) (ofF N fr).tmps, defers := [] } : Act) = ofD N [] (updP fr ps (toVs ρ vs)) := by
            rw [ht]; rfl
           refine Eq.mpr (congrArg (fun a => assign.wpIn (Fence.wide.inRound (ρ.at_ b)) 0 P _ a w) ht') ?_
           have hS : Slots ρ D f fr := fun t v hv => ⟨hlt t v hv, hfr t v hv⟩
           have hF : FOk ρ D (Fence.wide.inRound (ρ.at_ b)) (some b) := ⟨rfl, hb⟩
           refine (evC_ok hm gd1.1 hcal k assign ρ D n _ h _ i L _ _ _ gd1.2 (updPV_ok hvs hS) hG hL hD hF hev1).use [] w hw _ fun rs e1 f1 i1 L1 w1 hi1 hs1 q => ?_
           obtain ⟨rfl, ρ1, q1, q2, q3, q4, -⟩ := q
           simp only at q2 q3 q4
           have hat1 : ρ1.at_ b = ρ.at_ b := q1.at_ b hb
           obtain ⟨ob2, j2, ⟨gd3, gd4, fr2, fn2, dfr2, hfr2, rfl⟩, hj2⟩ := Lay.own q4 hg2
           have hl2 := hs1.own _ (List.mem_of_getElem? hj2)
           simp only at hl2
           simp only [Ex.to, Exit.then]
           have hst0 : stOf 0 = .ready := rfl
           rw [← hat1]
           refine ⟨_, run_beginRound hl2 rfl, ?_⟩
           have hs2 := St.putObj hs1 hj2 (.loop { state := .busy, pending := pe2, fn := fn2, tmps := (ofF N2 fr2).tmps, params := ps2.toArray, assign := as2, body := bd2, defers := dfr2 })
           have hlt2 := (q4.ok _ _ _ hg2).2.1
           have hL2 := Lay.put (vo' := .loop N2 f2' T2 pl2 ps2 as2 bd2 1 pe2) (o' := .loop { state := .busy, pending := pe2, fn := fn2, tmps := (ofF N2 fr2).tmps, params := ps2.toArray, assign := as2, body := bd2, defers := dfr2 }) q4 hg2 hj2 hlt2 ⟨gd3, gd4, fr2, fn2, dfr2, hfr2, rfl⟩
           have hF2 : FOk ρ1 (D.upto n n2) (Fence.wide.inRound (ρ1.at_ b)) (some b) := ⟨rfl, D.le_upto n n2 b hb⟩
           refine (evC_ok hm gd2.1 hcal k bd ρ1 (D.upto n n2) n2 f2 _ f1 i1 _ ex _ _ gd2.2 q3 (hG.ext q1 (D.le_upto n n2)) hL2 (hD.upto q2) hF2 hev2).use _ _ hs2 _ fun rs2 e3 f3 i3 L3 w3 hi3 hs3 q => ?_
           obtain ⟨rfl, ρ3, r1, r2, r3, r4, -⟩ := q
           simp only at r2 r3 r4
           have hat3 : ρ3.at_ b = ρ1.at_ b := r1.at_ b (D.le_upto n n2 b hb)
           obtain ⟨ob4, j4, ⟨gd5, gd6, fr4, fn4, dfr4, hfr4, rfl⟩, hj4⟩ := Lay.own r4 hg4
           have hl4 := hs3.own _ (List.mem_of_getElem? hj4)
           simp only at hl4
           have hlt4 := (r4.ok _ _ _ hg4).2.1
           have hE : Ext D ρ ρ3 := q1.trans r1 (D.le_upto n n2)
           rw [← hat3]
           have fin : ∀ (jump : Option Code) (st : Nat) (c : Bool), c = jump.isNone → stOf st = (if jump.isNone then .ready else .done) → e = ⟨some (.bool c), set b (false, .loop N4 f4' T4 pl4 ps4 as4 bd4 st jump) h4, n4⟩ →
            ∃ v w', (Instr.endRound (ρ3.at_ b) jump).run P w3 = .ok v w' ∧ ∃ c i' L', Ending.returned v = .returned (.bool c) ∧ i.le i' ∧ St i' L' w' ∧ Post ρ D n e (.bool c) i' L' := by
            intro jump st c hc hst he
            refine ⟨_, _, run_endRound jump hl4, c, i3, _, by rw [hc], hi1.trans hi3, St.putObj hs3 hj4 _, ?_⟩
            subst he
            refine ⟨ρ3, hE, Nat.le_trans q2 r2, ?_, fun v hv => by cases hv; exact ⟨by simp only [VV.lt], by simp only [toV]⟩⟩
            exact LayP.mono (Lay.put (vo' := .loop N4 f4' T4 pl4 ps4 as4 bd4 st jump) r4 hg4 hj4 hlt4 ⟨gd5, gd6, fr4, fn4, dfr4, hfr4, by rw [hst]⟩) (upto_upto q2 r2)
           cases e3 with
           | normal => cases he; exact fin none 0 true rfl rfl rfl
           | ret => cases he; exact fin (some .ret) 2 false rfl rfl rfl
           | exit jj => cases he; exact fin (some (.exit jj)) 2 false rfl rfl rfl
         · cases he
       · cases he
     · cases he
   · cases he
 · cases he
end
theorem evFn_ok {P : Program} {F : FTab} {G k : Nat} (hm : P.follows .mixedOrders = true) (hF : F.ok P G) : ∀ d, CalOk P (goodP P) G (evFn F G k d) := by
 intro d
 induction d with
 | zero => exact ⟨fun g vs h n e he => (by cases he), fun g vs h n e he => (by cases he), fun g vs h n e he => (by cases he)⟩
 | succ d ih =>
   refine ⟨fun g vs h n e he ρ D i L hD hG hL hvs => ?_, fun g vs h n e he ρ D i L hD hG hL hvs => ?_, fun b vs h n e he ρ D i L hD hG hL hb hvs => ?_⟩
   · rw [evFn_succ] at he
     unfold act at he
     simp only at he
     split at he
     · rename_i fn pl T hfn
       obtain ⟨hf, hok, hpl, hT⟩ := hF g _ hfn
       exact .inl ⟨hok, actC_ok hm ih hf hpl hT he hD hG hL hvs⟩
     · rename_i c hc
       exact hF g _ hc vs h n e he ρ D i L hD hG hL hvs
     · cases he
   · rw [evFn_succ] at he
     unfold act at he
     simp only at he
     split at he
     · rename_i fn pl T hfn
       obtain ⟨hf, hok, hpl, hT⟩ := hF g _ hfn
       exact ⟨hok, actC_ok hm ih hf hpl hT he hD hG hL hvs⟩
     · cases he
   · rw [evFn_succ] at he
     unfold act at he
     exact round_ok hm ih he hD hG hL hb hvs
end
end Go.Eng.Ev
namespace Go.Eng.Ev
noncomputable section
open Go Go.Eng
def cntB (c : Nat) : List Nat → Nat → Nat
 | [], k => k
 | a :: l, k => bif Nat.beq (Nat.mod a 256) c then cntB c l (Nat.succ k) else cntB c l k
def conCount (vs : List VV) (h : VH) (n : Nat) : Option Eff :=
 match vs with
 | [.str s, .int .u8 (.ofNat c)] => bif Nat.blt c 256 then some ⟨some (.int .i64 (.ofNat (cntB c s 0))), h, n⟩ else none
 | _ => none
def idxB (c : Nat) : List Nat → Nat → Option Nat
 | [], _ => none
 | a :: l, k => bif Nat.beq (Nat.mod a 256) c then some k else idxB c l (Nat.succ k)
def conIndexByte (vs : List VV) (h : VH) (n : Nat) : Option Eff :=
 match vs with
 | [.str s, .int .u8 (.ofNat c)] => bif Nat.blt c 256 then some ⟨some (.int .i64 (match idxB c s 0 with | some k => .ofNat k | none => -1)), h, n⟩ else none
 | _ => none
end
end Go.Eng.Ev
namespace Go.Eng.Ev
noncomputable section
open Go Go.Eng Go.Lib
section
variable {P : Program} {G g : Nat} {fn : Func} {e : Array Value → Sem Value} {c : List VV → VH → Nat → Option Eff}
theorem conVal_ok (hf : P.funcs[g]? = some fn) (hname : (fn.name == "runtime.NumGoroutine") = false) (hb : fn.body.isNone = true) (hn : Extern.findNext fn = none) (he : Extern.find fn = some e)
 (hc : ∀ vs h n eff, c vs h n = some eff → ∃ v, eff = ⟨some v, h, n⟩ ∧ (∀ D : Dom, v.lt D) ∧ ∀ (ρ : Loc) (w : World), (e (toVs ρ vs).toArray).run P w = .ok (toV ρ v) w) : ConOk P G g c := by
 intro vs h n eff hcc ρ D i L hD hG hL hvs
 obtain ⟨v, rfl, hlt, hr⟩ := hc vs h n eff hcc
 refine .inr fun w hw => ⟨toV ρ v, w, i, L, ?_, Imm.le.refl i, hw, post_val hL (hlt D)⟩
 rw [run_callFunc_extern hf hname hb hn he, hr]; rfl
theorem cntB_ok (c : Nat) (hc : c < 256) : ∀ (s : List Nat) (k : Nat), cntB c s k = k + countByte (bytesOf s).data.toList c.toUInt8
 | [], k => by simp [cntB, bytesOf, countByte]
 | a :: s, k => by
   have ih := cntB_ok c hc s
   have e1 : (bytesOf (a :: s)).data.toList = UInt8.ofNat a :: (bytesOf s).data.toList := by simp [bytesOf]
   have e2 : (UInt8.ofNat a == c.toUInt8) = Nat.beq (Nat.mod a 256) c := by
    cases hb : Nat.beq (Nat.mod a 256) c with
    | true =>
      have h1 : a % 256 = c := Nat.eq_of_beq_eq_true hb
      have : UInt8.ofNat a = c.toUInt8 := by
       show UInt8.ofNat a = UInt8.ofNat c
       rw [ofNat_inj]; omega
      simp [this]
    | false =>
      have : UInt8.ofNat a ≠ c.toUInt8 := fun e => by
       have h1 : a % 256 = c % 256 := ofNat_inj.1 e
       have h2 : Nat.mod a 256 = c := by show a % 256 = c; omega
       rw [h2] at hb; simp at hb
      simpa using this
   rw [e1]
   unfold countByte
   rw [List.count_cons, e2]
   simp only [cntB]
   cases hb : Nat.beq (Nat.mod a 256) c with
   | true =>
     simp only [cond_true, if_true, ih]
     unfold countByte
     omega
   | false =>
     simp only [cond_false, ih]
     unfold countByte
     simp
theorem conCount_ok (hf : P.funcs[g]? = some fn) (hname : (fn.name == "runtime.NumGoroutine") = false) (hb : fn.body.isNone = true) (hn : Extern.findNext fn = none) (he : Extern.find fn = some Extern.BytealgCount.count) : ConOk P G g conCount := by
 refine conVal_ok hf hname hb hn he fun vs h n eff hcc => ?_
 unfold conCount at hcc
 split at hcc
 · rename_i s c
   cases hb : Nat.blt c 256 with
   | false => rw [hb] at hcc; cases hcc
   | true =>
     rw [hb] at hcc
     cases hcc
     have hc : c < 256 := by simpa [Nat.blt_eq] using hb
     refine ⟨_, rfl, fun D => by simp only [VV.lt], fun ρ w => ?_⟩
     simp only [toVs, toV]
     rw [run_countString, cntB_ok c hc s 0]
     simp
 · cases hcc
theorem idxB_ok (c : Nat) (hc : c < 256) : ∀ (s : List Nat) (k : Nat), idxB c s k = ((List.range s.length).find? fun i => s[i]?.map (fun a => a % 256) == some c).map (· + k)
 | [], k => by simp [idxB]
 | a :: s, k => by
   rw [List.length_cons, find_range_succ]
   simp only [idxB]
   cases hb : Nat.beq (Nat.mod a 256) c with
   | true =>
     have h1 : a % 256 = c := Nat.eq_of_beq_eq_true hb
     simp [h1]
   | false =>
     have h1 : ¬ a % 256 = c := fun e => by
      have : Nat.mod a 256 = c := e
      rw [this] at hb; simp at hb
     simp only [cond_false, idxB_ok c hc s (Nat.succ k)]
     simp [h1]
     congr 1
     funext x
     simp only [Function.comp]
     omega
theorem conIndexByte_ok (hf : P.funcs[g]? = some fn) (hname : (fn.name == "runtime.NumGoroutine") = false) (hb : fn.body.isNone = true) (hn : Extern.findNext fn = none) (he : Extern.find fn = some Extern.BytealgIndexByte.indexByte) : ConOk P G g conIndexByte := by
 refine conVal_ok hf hname hb hn he fun vs h n eff hcc => ?_
 unfold conIndexByte at hcc
 split at hcc
 · rename_i s c
   cases hb : Nat.blt c 256 with
   | false => rw [hb] at hcc; cases hcc
   | true =>
     rw [hb] at hcc
     cases hcc
     have hc : c < 256 := by simpa [Nat.blt_eq] using hb
     refine ⟨_, rfl, fun D => by simp only [VV.lt], fun ρ w => ?_⟩
     simp only [toVs, toV]
     rw [run_indexByte_string, idxB_ok c hc s 0]
     have hlen : (bytesOf s).size = s.length := by unfold bytesOf; show (s.map UInt8.ofNat).toArray.size = _; simp
     have e1 : ((List.range (bytesOf s).size).find? fun i => (bytesOf s)[i]! == (Int.ofNat c).toNat.toUInt8) = (List.range s.length).find? fun i => s[i]?.map (fun a => a % 256) == some c := by
      rw [hlen]
      have : ∀ (l : List Nat), (∀ i ∈ l, i < s.length) → (l.find? fun i => (bytesOf s)[i]! == (Int.ofNat c).toNat.toUInt8) = l.find? fun i => s[i]?.map (fun a => a % 256) == some c := by
       intro l
       induction l with
       | nil => intro _; rfl
       | cons x l ih =>
         intro hl
         have hx := hl x (by simp)
         have e2 : ((bytesOf s)[x]! == (Int.ofNat c).toNat.toUInt8) = (s[x]?.map (fun a => a % 256) == some c) := by
          have h1 : (bytesOf s)[x]! = UInt8.ofNat s[x] := by
           have h2 : (bytesOf s).data[x]? = some (UInt8.ofNat s[x]) := by
            show ((s.map UInt8.ofNat).toArray)[x]? = _
            rw [List.getElem?_toArray, List.getElem?_map, List.getElem?_eq_getElem hx]; rfl
           have h3 : x < (bytesOf s).size := by rw [hlen]; exact hx
           rw [getElem!_pos (bytesOf s) x h3]
           have h4 : (bytesOf s).data[x]? = some ((bytesOf s)[x]'h3) := Array.getElem?_eq_getElem (show x < (bytesOf s).data.size from h3)
           rw [h4] at h2
           exact Option.some.inj h2
          rw [h1, List.getElem?_eq_getElem hx, Option.map_some]
          have h5 : (Int.ofNat c).toNat.toUInt8 = UInt8.ofNat c := rfl
          rw [h5]
          have h6 := ofNat_inj (a := s[x]) (b := c)
          by_cases h7 : s[x] % 256 = c
          · have : UInt8.ofNat s[x] = UInt8.ofNat c := h6.2 (by omega)
            rw [this, h7]; simp
          · have : UInt8.ofNat s[x] ≠ UInt8.ofNat c := fun e => h7 (by have := h6.1 e; omega)
            have h8 : (UInt8.ofNat s[x] == UInt8.ofNat c) = false := by simpa using this
            rw [h8]
            simp [h7]
         rw [List.find?_cons, List.find?_cons, e2, ih fun i hi => hl i (List.mem_cons_of_mem _ hi)]
      exact this _ fun i hi => List.mem_range.1 hi
     unfold firstIdx
     rw [e1]
     cases (List.range s.length).find? fun i => s[i]?.map (fun a => a % 256) == some c <;> simp
 · cases hcc
end
end
end Go.Eng.Ev
namespace Go.Eng.Ev
noncomputable section
open Go Go.Eng
abbrev HL := List (Nat × Bool × VO)
def eqEs : VEs → VEs → Bool
 | [], [] => true
 | (a, b, n) :: l, (c, d, m) :: r => eqVV a c && eqVV b d && Nat.beq n m && eqEs l r
 | _, _ => false
theorem eqEs_ok : ∀ {a b : VEs}, eqEs a b = true → a = b
 | [], [], _ => rfl
 | [], _ :: _, h => by cases h
 | _ :: _, [], h => by cases h
 | (a, b, n) :: l, (c, d, m) :: r, h => by
   simp only [eqEs, Bool.and_eq_true] at h
   obtain ⟨⟨⟨h1, h2⟩, h3⟩, h4⟩ := h
   rw [eqVV_ok _ _ h1, eqVV_ok _ _ h2, Nat.eq_of_beq_eq_true h3, eqEs_ok h4]
def eqVO : VO → VO → Bool
 | .cells l t s, .cells l' t' s' => Nat.beq t t' && Nat.beq s s' && eqVs l l'
 | .row l t s, .row l' t' s' => Nat.beq t t' && Nat.beq s s' && eqVs l l'
 | .map es c, .map es' c' => Nat.beq c c' && eqEs es es'
 | _, _ => false
theorem eqVO_ok {a b : VO} (h : eqVO a b = true) : a = b := by
 unfold eqVO at h
 split at h
 · simp only [Bool.and_eq_true] at h
   obtain ⟨⟨h1, h2⟩, h3⟩ := h
   rw [Nat.eq_of_beq_eq_true h1, Nat.eq_of_beq_eq_true h2, eqVs_ok _ _ h3]
 · simp only [Bool.and_eq_true] at h
   obtain ⟨⟨h1, h2⟩, h3⟩ := h
   rw [Nat.eq_of_beq_eq_true h1, Nat.eq_of_beq_eq_true h2, eqVs_ok _ _ h3]
 · simp only [Bool.and_eq_true] at h
   obtain ⟨h1, h2⟩ := h
   rw [Nat.eq_of_beq_eq_true h1, eqEs_ok h2]
 · cases h
def mkH : HL → VH
 | [] => .lf
 | (k, x) :: r => set k x (mkH r)
theorem mkH_mem : ∀ {l : HL} {k : Nat} {x : Bool × VO}, get k (mkH l) = some x → (k, x) ∈ l
 | [], k, x, h => by rw [mkH, get_lf] at h; cases h
 | (k0, x0) :: r, k, x, h => by
   rw [mkH] at h
   rcases get_set h with ⟨rfl, rfl⟩ | ⟨_, h⟩
   · exact List.mem_cons_self ..
   · exact List.mem_cons_of_mem _ (mkH_mem h)
def isAt (p : Nat × Bool × VO) : Option (Bool × VO) → Bool
 | some (fz, vo) => (fz == p.2.1) && eqVO vo p.2.2
 | none => false
def subH : HL → VH → Bool
 | [], _ => true
 | p :: r, h => isAt p (get p.1 h) && subH r h
theorem subH_ok : ∀ {l : HL} {h : VH}, subH l h = true → ∀ p ∈ l, get p.1 h = some p.2
 | [], _, _, p, hp => by cases hp
 | q :: r, h, hs, p, hp => by
   simp only [subH, Bool.and_eq_true] at hs
   rcases List.mem_cons.1 hp with rfl | hp
   · have h1 := hs.1
     unfold isAt at h1
     split at h1
     · rename_i fz vo hg
       simp only [Bool.and_eq_true, beq_iff_eq] at h1
       rw [hg, h1.1, eqVO_ok h1.2]
     · cases h1
   · exact subH_ok hs.2 p hp
def delAll : HL → VH → VH
 | [], h => h
 | p :: r, h => delAll r (del p.1 h)
theorem delAll_get : ∀ {l : HL} {h : VH} {k : Nat} {x : Bool × VO}, get k (delAll l h) = some x → get k h = some x ∧ ∀ p ∈ l, p.1 ≠ k
 | [], h, k, x, hg => ⟨hg, fun p hp => by cases hp⟩
 | q :: r, h, k, x, hg => by
   obtain ⟨h1, h2⟩ := delAll_get (l := r) hg
   obtain ⟨h3, h4⟩ := get_del h1
   refine ⟨h4, fun p hp => ?_⟩
   rcases List.mem_cons.1 hp with rfl | hp
   · exact fun e => h3 e.symm
   · exact h2 p hp
def setAll : HL → VH → VH
 | [], h => h
 | (k, x) :: r, h => set k x (setAll r h)
theorem setAll_get : ∀ {l : HL} {h : VH} {k : Nat} {x : Bool × VO}, get k (setAll l h) = some x → (k, x) ∈ l ∨ get k h = some x
 | [], h, k, x, hg => .inr hg
 | (k0, x0) :: r, h, k, x, hg => by
   rw [setAll] at hg
   rcases get_set hg with ⟨rfl, rfl⟩ | ⟨_, hg⟩
   · exact .inl (List.mem_cons_self ..)
   · exact (setAll_get hg).imp (List.mem_cons_of_mem _) id
structure Memo where
 vs : List VV
 n : Nat
 hr : HL
 v : VV
 hw : HL
 m : Nat
abbrev Con := List VV → VH → Nat → Option Eff
def memoHit (M : Memo) : Con := fun vs h n =>
 bif Nat.beq n M.n && eqVs vs M.vs && subH M.hr h then some ⟨some M.v, setAll M.hw (delAll M.hr h), M.m⟩ else none
def memoIs (M : Memo) : Option Eff → Bool
 | some ⟨some v, h, n⟩ => Nat.beq n M.m && eqVV v M.v && subH M.hw h
 | _ => false
theorem CallS.mono {P : Program} {g : FuncId} {args : List Value} {i : Imm} {L : SH} {K K' : Value → Imm → SH → Prop} (h : CallS P g args i L K) (hk : ∀ v i' L', i.le i' → K v i' L' → K' v i' L') : CallS P g args i L K' := by
 rcases h with ⟨h1, h2⟩ | h
 · exact .inl ⟨h1, h2.mono hk⟩
 · refine .inr fun w hw => ?_
   obtain ⟨v, w', i', L', h1, h2, h3, h4⟩ := h w hw
   exact ⟨v, w', i', L', h1, h2, h3, hk v i' L' h2 h4⟩
theorem memo_ok {P : Program} {G g : Nat} {c : Con} {M : Memo} (hc : ConOk P G g c) (hM : memoIs M (c M.vs (mkH M.hr) M.n) = true) : ConOk P G g (memoHit M) := by
 intro vs h n e he ρ D i L hD hG hL hvs
 unfold memoHit at he
 cases hb : (Nat.beq n M.n && eqVs vs M.vs && subH M.hr h) with
 | false => rw [hb] at he; cases he
 | true =>
 rw [hb] at he
 cases he
 simp only [Bool.and_eq_true] at hb
 obtain ⟨⟨b1, b2⟩, b3⟩ := hb
 obtain rfl := Nat.eq_of_beq_eq_true b1
 obtain rfl := eqVs_ok _ _ b2
 have hsub := subH_ok b3
 have hr : ∀ k x, get k (mkH M.hr) = some x → get k h = some x := fun k x hk => hsub _ (mkH_mem hk)
 unfold memoIs at hM
 split at hM
 case h_2 => cases hM
 rename_i v h1 m he
 simp only [Bool.and_eq_true] at hM
 obtain ⟨⟨m1, m2⟩, m3⟩ := hM
 obtain rfl := Nat.eq_of_beq_eq_true m1
 obtain rfl := eqVV_ok _ _ m2
 have hnew := subH_ok m3
 classical
 let Kq : List (Nat × Obj) := L.filter fun p => decide (∃ k vo, get k h = some (false, vo) ∧ (∀ q ∈ M.hr, q.1 ≠ k) ∧ ρ.at_ k = p.1)
 have hKq : ∀ p ∈ Kq, p ∈ L ∧ ∃ k vo, get k h = some (false, vo) ∧ (∀ q ∈ M.hr, q.1 ≠ k) ∧ ρ.at_ k = p.1 := fun p hp => by
  obtain ⟨h1, h2⟩ := List.mem_filter.1 hp
  exact ⟨h1, of_decide_eq_true h2⟩
 have hLr : LayP ρ D (fun k fz vo => get k (mkH M.hr) = some (fz, vo)) i L := LayP.sub hL fun k fz vo hk => hr k _ hk
 have hLw := hLr.wk (ρ.keep ++ Kq) fun p hp => by
  rcases List.mem_append.1 hp with hp | hp
  · exact hLr.frm p hp
  · obtain ⟨p1, k0, vo0, p2, p3, p4⟩ := hKq p hp
    refine ⟨p1, fun k vo hk e => ?_⟩
    have := hL.inj k k0 vo vo0 (hr k _ hk) p2 (e.trans p4.symm)
    subst this
    exact p3 _ (mkH_mem hk) rfl
 have hcall := hc M.vs (mkH M.hr) M.n _ he (ρ.wk (ρ.keep ++ Kq)) D i L hD (hG.wk _) hLw hvs
 rw [toVs_ext0 (ρ.wk_ext _ D) M.vs hvs] at hcall
 refine hcall.mono ?_
 rintro u i' L' hi ⟨ρ', E, hn, hL', hv⟩
 simp only at hn hL' hv
 have hkeep : ρ'.keep = ρ.keep ++ Kq := E.keep
 have E2 : Ext D ρ (ρ'.wk ρ.keep) := ⟨⟨fun b hb => E.at_ b hb, fun b hb => E.cap b hb, E.good⟩, rfl⟩
 have old : ∀ k vo, get k h = some (false, vo) → (∀ q ∈ M.hr, q.1 ≠ k) → ∃ o, Holds ρ k vo o ∧ (ρ.at_ k, o) ∈ L' ∧ ∀ k' vo', get k' h1 = some (false, vo') → ρ'.at_ k' ≠ ρ.at_ k := fun k vo hk hne => by
  obtain ⟨_, _, o, h3, h4⟩ := hL.ok k false vo hk
  rw [if_neg (by decide)] at h4
  have hin : (ρ.at_ k, o) ∈ ρ'.keep := by
   rw [hkeep]
   exact List.mem_append_right _ (List.mem_filter.2 ⟨h4, decide_eq_true ⟨k, vo, hk, hne, rfl⟩⟩)
  exact ⟨o, h3, (hL'.frm _ hin).1, (hL'.frm _ hin).2⟩
 have atD : ∀ k, D k → ρ'.at_ k = ρ.at_ k := fun k hk => E.at_ k hk
 have split : ∀ k fz vo, get k (setAll M.hw (delAll M.hr h)) = some (fz, vo) → get k h1 = some (fz, vo) ∨ (get k h = some (fz, vo) ∧ ∀ q ∈ M.hr, q.1 ≠ k) := fun k fz vo hk => by
  rcases setAll_get hk with hk | hk
  · exact .inl (hnew _ hk)
  · exact .inr (delAll_get hk)
 refine ⟨ρ'.wk ρ.keep, E2, hn, ⟨fun k fz vo hk => ?_, fun k k' vo vo' hk hk' e => ?_, fun p hp => ⟨?_, fun k vo hk => ?_⟩⟩, fun v' hv' => ?_⟩
 · rcases split k fz vo hk with hk | ⟨hk, hne⟩
   · obtain ⟨a1, a2, o, a3, a4⟩ := hL'.ok k fz vo hk
     exact ⟨a1, a2, o, a3.ext0 (ρ'.wk_ext ρ.keep _) a1 a2, a4⟩
   · obtain ⟨a1, a2, o, a3, a4⟩ := hL.ok k fz vo hk
     refine ⟨.inl a1, VO.lt_mono (D.le_upto _ _) a2, ?_⟩
     cases fz with
     | true =>
       refine ⟨o, a3.ext E2 a1 a2, ?_⟩
       rw [if_pos rfl] at a4 ⊢
       rw [show (ρ'.wk ρ.keep).at_ k = ρ.at_ k from atD k a1]
       exact hi.blk _ _ a4
     | false =>
       obtain ⟨o', b1, b2, _⟩ := old k vo hk hne
       refine ⟨o', b1.ext E2 a1 a2, ?_⟩
       rw [if_neg (by decide)]
       rw [show (ρ'.wk ρ.keep).at_ k = ρ.at_ k from atD k a1]
       exact b2
 · rcases split k false vo hk with hk | ⟨hk, hne⟩
   · rcases split k' false vo' hk' with hk' | ⟨hk', hne'⟩
     · exact hL'.inj k k' vo vo' hk hk' e
     · obtain ⟨o', _, _, b3⟩ := old k' vo' hk' hne'
       exact absurd (e.trans (atD k' (hL.ok k' false vo' hk').1)) (b3 k vo hk)
   · rcases split k' false vo' hk' with hk' | ⟨hk', hne'⟩
     · obtain ⟨o', _, _, b3⟩ := old k vo hk hne
       exact absurd (e.symm.trans (atD k (hL.ok k false vo hk).1)) (b3 k' vo' hk')
     · exact hL.inj k k' vo vo' hk hk' ((atD k (hL.ok k false vo hk).1).symm.trans (e.trans (atD k' (hL.ok k' false vo' hk').1)))
 · exact (hL'.frm p (by rw [hkeep]; exact List.mem_append_left _ hp)).1
 · rcases split k false vo hk with hk | ⟨hk, hne⟩
   · exact (hL'.frm p (by rw [hkeep]; exact List.mem_append_left _ hp)).2 k vo hk
   · have := (hL.frm p hp).2 k vo hk
     exact fun e => this ((atD k (hL.ok k false vo hk).1).symm.trans e)
 · cases hv'
   obtain ⟨c1, c2⟩ := hv M.v rfl
   refine ⟨c1, ?_⟩
   rw [toV_ext0 (ρ'.wk_ext ρ.keep _) M.v c1]
   exact c2
def conOr (a b : Con) : Con := fun vs h n => match a vs h n with
 | some e => some e
 | none => b vs h n
theorem conOr_ok {P : Program} {G g : Nat} {a b : Con} (ha : ConOk P G g a) (hb : ConOk P G g b) : ConOk P G g (conOr a b) := by
 intro vs h n e he
 unfold conOr at he
 split at he
 · rename_i e' hq
   cases he
   exact ha vs h n _ hq
 · exact hb vs h n e he
theorem conFn_ok {P : Program} {F : FTab} {G k : Nat} (hm : P.follows .mixedOrders = true) (hF : F.ok P G) (d g : Nat) : ConOk P G g (evFn F G k d (.fn g)) :=
 fun vs h n e he ρ D i L hD hG hL hvs => (evFn_ok hm hF d).fn g vs h n e he ρ D i L hD hG hL hvs
def FTab.over (F : FTab) (g : Nat) (x : Ent) : FTab := fun k => bif Nat.beq k g then some x else F k
theorem FTab.over_ok {P : Program} {G : Nat} {F : FTab} (hF : F.ok P G) {g : Nat} {c : Con} (hc : ConOk P G g c) : (F.over g (.con c)).ok P G := by
 intro k x hx
 unfold FTab.over at hx
 cases hb : Nat.beq k g with
 | true =>
   rw [hb] at hx
   obtain rfl := Nat.eq_of_beq_eq_true hb
   cases hx
   exact hc
 | false =>
   rw [hb] at hx
   exact hF k x hx
def AllT {α : Type} (p : Nat → α → Prop) : Tr α → Prop
 | .lf => True
 | .nd l v r => AllT p l ∧ (∀ n a, v = some (n, a) → p n a) ∧ AllT p r
theorem allT_getP {α : Type} {p : Nat → α → Prop} : ∀ (q : Pth) {t : Tr α} {n : Nat} {a : α}, AllT p t → getP q t = some (n, a) → p n a
 | .e, .lf, n, a, _, h => by cases h
 | .e, .nd l v r, n, a, h, k => h.2.1 n a k
 | .o q, .lf, n, a, _, h => by cases h
 | .o q, .nd l v r, n, a, h, k => allT_getP q h.1 k
 | .i q, .lf, n, a, _, h => by cases h
 | .i q, .nd l v r, n, a, h, k => allT_getP q h.2.2 k
theorem allT_get {α : Type} {p : Nat → α → Prop} {t : Tr α} {n : Nat} {a : α} (h : AllT p t) (k : get n t = some a) : p n a := by
 unfold get chk at k
 cases hq : getP (pathF fuelT n) t with
 | none => rw [hq] at k; cases k
 | some x =>
   obtain ⟨m, b⟩ := x
   rw [hq] at k
   simp only at k
   cases hb : Nat.beq m n with
   | false => rw [hb] at k; cases k
   | true =>
     rw [hb] at k
     cases k
     obtain rfl := Nat.eq_of_beq_eq_true hb
     exact allT_getP _ h hq
def isTrue (e : Option Eff) : Bool := match e with
 | some ⟨some (.bool b), _, _⟩ => b
 | _ => false
theorem known_of {P : Program} {F : FTab} {G k d g : Nat} (hm : P.follows .mixedOrders = true) (hF : F.ok P G) (h : isTrue (evFn F G k d (.it g) [] .lf G) = true) (i : Imm) (L : SH) : FnS P g [] i L fun r i' L' => r = .bool true ∧ L' = L := by
 unfold isTrue at h
 split at h
 case h_2 => cases h
 rename_i b h1 m he
 subst h
 let ρ : Loc := ⟨id, fun _ => 0, L, goodP P⟩
 have hL : Lay ρ (fun b => b < G) .lf i L := ⟨fun k fz vo hk => (by rw [get_lf] at hk; cases hk), fun k k' vo vo' hk _ _ => (by rw [get_lf] at hk; cases hk), fun p hp => ⟨hp, fun k vo hk => (by rw [get_lf] at hk; cases hk)⟩⟩
 have hc := ((evFn_ok hm hF d).it g [] .lf G _ he ρ (fun b => b < G) i L (fun b hb => hb) ⟨rfl, fun b hb => hb, fun b _ => rfl⟩ hL (by simp only [VV.lts])).2
 intro w hw
 refine (hc w hw).mono ?_
 rintro e w' ⟨v, i', L', rfl, hi, hs, ρ', E, _, hl, hv⟩
 have hk : ∀ p ∈ L, p ∈ L' := fun p hp => (hl.frm p (by rw [E.keep]; exact hp)).1
 refine ⟨v, i', L, rfl, hi, ⟨hs.os, hs.tape, hs.output, hs.imm, hw.nodup, fun p hp => hs.own p (hk p hp), fun p hp => hs.sep p (hk p hp)⟩, ?_, rfl⟩
 have := (hv _ rfl).2
 simpa only [toV] using this
end
end Go.Eng.Ev
namespace Go.Eng.Ev
noncomputable section
open Go Go.Eng Go.Lib
def mapK {β : Type} (f : Nat → Nat) (l : List Nat) : (List Nat → β) → β :=
 List.rec (fun k => k []) (fun a _ ih k => ih fun r => Nat.rec (k (0 :: r)) (fun m _ => k (Nat.succ m :: r)) (f a)) l
theorem mapK_eq {β : Type} (f : Nat → Nat) : ∀ (l : List Nat) (k : List Nat → β), mapK f l k = k (l.map f)
 | [], k => rfl
 | a :: l, k => by
   have ih := mapK_eq f l (fun r => (Nat.rec (k (0 :: r)) (fun m _ => k (Nat.succ m :: r)) (f a) : β))
   refine Eq.trans ih ?_
   simp only [List.map_cons]
   cases f a <;> rfl
def lowB (a : Nat) : Nat := bif Nat.ble 65 (Nat.mod a 256) && Nat.ble (Nat.mod a 256) 90 then Nat.add (Nat.mod a 256) 32 else Nat.mod a 256
def asciiS (l : List Nat) : Bool := l.all fun a => Nat.blt (Nat.mod a 256) 128
def conLower : Con := fun vs h n =>
 match vs with
 | [.str s] => bif asciiS s && Nat.ble s.length 1000000 then mapK lowB s (fun r => some ⟨some (.str r), h, n⟩) else none
 | _ => none
def conSort (t : Nat) : Con := fun vs h n =>
 match vs with
 | [.iface t' .nils, .fn _ _ _] => bif Nat.beq t t' then some ⟨some (.tup []), h, n⟩ else none
 | [.iface t' (.sl _ _ l _), .fn _ _ _] => bif Nat.beq t t' && Nat.ble l 1 then some ⟨some (.tup []), h, n⟩ else none
 | [.iface t' (.sle _ _ _ _), .fn _ _ _] => bif Nat.beq t t' then some ⟨some (.tup []), h, n⟩ else none
 | _ => none
theorem lowB_ok (a : Nat) : UInt8.ofNat (lowB a) = lowerB (UInt8.ofNat a) := by
 apply UInt8.toNat_inj.1
 unfold lowB lowerB isUpperB
 have h1 : (65 ≤ UInt8.ofNat a) = (65 ≤ a % 256) := by simp [UInt8.le_iff_toNat_le]
 have h2 : (UInt8.ofNat a ≤ 90) = (a % 256 ≤ 90) := by simp [UInt8.le_iff_toNat_le]
 have e : ∀ x y, Nat.ble x y = decide (x ≤ y) := fun x y => Bool.eq_iff_iff.2 (by simp)
 rw [e, e]
 simp only [h1, h2]
 by_cases g : 65 ≤ a % 256 ∧ a % 256 ≤ 90
 · have : (decide (65 ≤ Nat.mod a 256) && decide (Nat.mod a 256 ≤ 90)) = true := (show (decide (65 ≤ a % 256) && decide (a % 256 ≤ 90)) = true from by simpa using g)
   rw [this, if_pos (show (decide (65 ≤ a % 256) && decide (a % 256 ≤ 90)) = true from this)]
   show (UInt8.ofNat (a % 256 + 32)).toNat = _
   rw [UInt8.toNat_add]
   simp
 · have : (decide (65 ≤ Nat.mod a 256) && decide (Nat.mod a 256 ≤ 90)) = false := by
    rw [Bool.eq_false_iff]; intro h; exact g (by have h : (decide (65 ≤ a % 256) && decide (a % 256 ≤ 90)) = true := h; simpa using h)
   rw [this, if_neg (show ¬ (decide (65 ≤ a % 256) && decide (a % 256 ≤ 90)) = true from by rw [show (decide (65 ≤ a % 256) && decide (a % 256 ≤ 90)) = false from this]; decide)]
   show (UInt8.ofNat (a % 256)).toNat = _
   simp
theorem lowS_ok (s : List Nat) : bytesOf (s.map lowB) = ⟨(toLowerA (bytesOf s).data.toList).toArray⟩ := by
 unfold bytesOf toLowerA
 congr 1
 simp only [List.map_map]
 congr 1
 exact List.map_congr_left fun a _ => lowB_ok a
theorem conLower_ok {P : Program} {G g : Nat} (hok : fnOk P g = true)
 (hc : ∀ (s : ByteArray) (i : Imm) (L : SH), s.size ≤ 140737488355328 → (∀ (j : Nat) (b : UInt8), s.data.toList[j]? = some b → b.toNat < 128) → FnS P g [.string s] i L fun r i' L' => r = .string ⟨(toLowerA s.data.toList).toArray⟩ ∧ i' = i ∧ L' = L) : ConOk P G g conLower := by
 intro vs h n e he ρ D i L hD hG hL hvs
 unfold conLower at he
 split at he
 · rename_i s
   cases hb : (asciiS s && Nat.ble s.length 1000000) with
   | false => rw [hb] at he; cases he
   | true =>
     rw [hb] at he
     simp only [cond_true, mapK_eq] at he
     cases he
     simp only [Bool.and_eq_true] at hb
     obtain ⟨b1, b2⟩ := hb
     have b2 := Nat.le_of_ble_eq_true b2
     refine .inl ⟨hok, ?_⟩
     simp only [toVs, toV]
     refine (hc (bytesOf s) i L (by rw [bytesOf_size]; omega) fun j b hj => ?_).mono ?_
     · have h1 : (bytesOf s).data.toList = s.map UInt8.ofNat := by simp [bytesOf]
       rw [h1, List.getElem?_map] at hj
       obtain ⟨a, ha, rfl⟩ := Option.map_eq_some_iff.1 hj
       have := List.all_eq_true.1 b1 a (List.mem_of_getElem? ha)
       rw [Nat.blt_eq] at this
       have : a % 256 < 128 := this
       simpa using this
     · rintro r i' L' _ ⟨rfl, rfl, rfl⟩
       refine ⟨ρ, Ext.refl D ρ, Nat.le_refl n, hL.mono (D.le_upto n n), fun v hv => ?_⟩
       cases hv
       exact ⟨by simp only [VV.lt], by simp only [toV, lowS_ok]⟩
 · cases he
theorem conSort_ok {P : Program} {G g t : Nat} (hok : fnOk P g = true)
 (hc : ∀ (p : Option Addr) (l c : Nat) (lf : Fn) (la lb : Array Value) (i : Imm) (L : SH), l ≤ 1 → FnS P g [.iface t (.slice p l c), .func lf la lb] i L fun r i' L' => r = .tuple #[] ∧ i' = i ∧ L' = L) : ConOk P G g (conSort t) := by
 intro vs h n e he ρ D i L hD hG hL hvs
 have post : ∀ (r : Value) (i' : Imm) (L' : SH), r = .tuple #[] ∧ i' = i ∧ L' = L → Post ρ D n ⟨some (.tup []), h, n⟩ r i' L' := by
  rintro r i' L' ⟨rfl, rfl, rfl⟩
  refine ⟨ρ, Ext.refl D ρ, Nat.le_refl n, hL.mono (D.le_upto n n), fun v hv => ?_⟩
  cases hv
  exact ⟨by simp only [VV.lt, VV.lts], by simp only [toV, toVs]⟩
 unfold conSort at he
 split at he
 · rename_i t' f fs cs
   cases hb : Nat.beq t t' with
   | false => rw [hb] at he; cases he
   | true =>
     rw [hb] at he; cases he
     obtain rfl := Nat.eq_of_beq_eq_true hb
     refine .inl ⟨hok, ?_⟩
     simp only [toVs, toV]
     exact (hc none 0 0 f _ _ i L (by omega)).mono fun r i' L' _ k => post r i' L' k
 · rename_i t' b o l c f fs cs
   cases hb : (Nat.beq t t' && Nat.ble l 1) with
   | false => rw [hb] at he; cases he
   | true =>
     rw [hb] at he; cases he
     simp only [Bool.and_eq_true] at hb
     obtain rfl := Nat.eq_of_beq_eq_true hb.1
     have := Nat.le_of_ble_eq_true hb.2
     refine .inl ⟨hok, ?_⟩
     simp only [toVs, toV]
     exact (hc _ l _ f _ _ i L this).mono fun r i' L' _ k => post r i' L' k
 · rename_i t' b o o' j f fs cs
   cases hb : Nat.beq t t' with
   | false => rw [hb] at he; cases he
   | true =>
     rw [hb] at he; cases he
     obtain rfl := Nat.eq_of_beq_eq_true hb
     refine .inl ⟨hok, ?_⟩
     simp only [toVs, toV]
     exact (hc _ 0 _ f _ _ i L (by omega)).mono fun r i' L' _ k => post r i' L' k
 · cases he
end
end Go.Eng.Ev
