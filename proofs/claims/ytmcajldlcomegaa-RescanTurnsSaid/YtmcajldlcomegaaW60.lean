/- RescanCompares, part 15: the chapter's example. -/
import Derived.Test.YtmcajldlcomegaaW59
namespace Go.Proofs.Ytmcajldlcomegaa
open Go Go.Eng

theorem Quiet_62 (b : Bool) (i : Imm) (L : SH) : FnS Try.prog 62 [.agg (List.toArray [.slice none 0 0, .slice none 0 0, .slice none 0 0, .slice none 0 0, .slice none 0 0, .slice none 0 0, .slice none 0 0, .slice none 0 0, .slice none 0 0, .slice none 0 0, .int .i64 0, .bool b, .bool false])] i L fun v i' L' => v = .bool (!b) ∧ i' = i ∧ L' = L := by
  refine FnS.state (K := fun v i' L' => ∃ M, v = .bool (!b) ∧ i' = i ∧ L' = M ++ L) ?_ ?_
  rotate_left
  · rintro v i' L' w _ hs ⟨M, hv, rfl, rfl⟩
    exact ⟨i', _, Imm.le.refl i', hs.dropL, hv, rfl, rfl⟩
  refine FnS.intro1 Try.func62 rfl Try.ntmps62 (by simp) Try.results62 ?_
  cases b
  · repeat' (first
      | refine CS.seq ?_
      | refine thenQ.normal ?_
      | refine CS.cond_true rfl ?_
      | refine CS.cond_false rfl ?_
      | refine CS.skip ?_
      | (refine CS.region (id := 0) ?_;
          refine RS.box rfl rfl (fun b => ?_);
          refine RS.pv (PV.all tab_ok rfl) rfl ?_;
          refine RS.nil ?_)
      | (refine CS.region (id := 1) ?_;
          refine RS.pv (PV.all tab_ok rfl) rfl ?_;
          (first | refine RS.lv (LV.load tab_ok rfl (Has.own 0 rfl) rfl) rfl ?_ | refine RS.lv (LV.load tab_ok rfl (Has.own 1 rfl) rfl) rfl ?_ | refine RS.lv (LV.load tab_ok rfl (Has.own 2 rfl) rfl) rfl ?_);
          refine RS.pv (PV.all tab_ok rfl) rfl ?_;
          refine RS.pv (PV.all tab_ok rfl) rfl ?_;
          (first | refine RS.pv (PV.all tab_ok rfl) rfl ?_ | refine RS.skip rfl ?_);
          (first | refine RS.lv (LV.load tab_ok rfl (Has.own 0 rfl) rfl) rfl ?_ | refine RS.lv (LV.load tab_ok rfl (Has.own 1 rfl) rfl) rfl ?_ | refine RS.lv (LV.load tab_ok rfl (Has.own 2 rfl) rfl) rfl ?_ | refine RS.skip rfl ?_);
          (first | refine RS.pv (PV.all tab_ok rfl) rfl ?_ | refine RS.pv (PV.eqlT rfl rfl (by omega)) rfl ?_ | refine RS.pv (PV.eqlF rfl rfl (by omega)) rfl ?_ | refine RS.ifEql rfl rfl rfl (fun h => ?_) (fun h => ?_) | refine RS.ifSeql rfl rfl rfl (fun h => ?_) (fun h => ?_) | refine RS.skip rfl ?_);
          (all_goals refine RS.pv (PV.all tab_ok rfl) rfl ?_);
          (all_goals refine RS.pv (PV.all tab_ok rfl) rfl ?_);
          (all_goals (first | refine RS.pv (PV.all tab_ok rfl) rfl ?_ | refine RS.skip rfl ?_));
          (all_goals (first | refine RS.lv (LV.load tab_ok rfl (Has.own 0 rfl) rfl) rfl ?_ | refine RS.lv (LV.load tab_ok rfl (Has.own 1 rfl) rfl) rfl ?_ | refine RS.lv (LV.load tab_ok rfl (Has.own 2 rfl) rfl) rfl ?_ | refine RS.skip rfl ?_));
          (all_goals (first | refine RS.pv (PV.all tab_ok rfl) rfl ?_ | refine RS.skip rfl ?_));
          (all_goals refine RS.pv (PV.all tab_ok rfl) rfl ?_);
          (all_goals refine RS.pv (PV.all tab_ok rfl) rfl ?_);
          (all_goals (first | refine RS.pv (PV.all tab_ok rfl) rfl ?_ | refine RS.skip rfl ?_));
          (all_goals (first | refine RS.lv (LV.load tab_ok rfl (Has.own 0 rfl) rfl) rfl ?_ | refine RS.lv (LV.load tab_ok rfl (Has.own 1 rfl) rfl) rfl ?_ | refine RS.lv (LV.load tab_ok rfl (Has.own 2 rfl) rfl) rfl ?_ | refine RS.skip rfl ?_));
          (all_goals (first | refine RS.pv (PV.lenS tab_ok rfl rfl) rfl ?_ | refine RS.pv (PV.lenT tab_ok rfl rfl) rfl ?_ | refine RS.skip rfl ?_));
          (all_goals (first | refine RS.pv (PV.all tab_ok rfl) rfl ?_ | refine RS.pv (PV.eqlT rfl rfl (by omega)) rfl ?_ | refine RS.pv (PV.eqlF rfl rfl (by omega)) rfl ?_ | refine RS.ifEql rfl rfl rfl (fun h => ?_) (fun h => ?_) | refine RS.ifSeql rfl rfl rfl (fun h => ?_) (fun h => ?_) | refine RS.skip rfl ?_));
          (all_goals refine RS.pv (PV.all tab_ok rfl) rfl ?_);
          (all_goals refine RS.pv (PV.all tab_ok rfl) rfl ?_);
          (all_goals (first | refine RS.pv (PV.all tab_ok rfl) rfl ?_ | refine RS.skip rfl ?_));
          (all_goals (first | refine RS.lv (LV.load tab_ok rfl (Has.own 0 rfl) rfl) rfl ?_ | refine RS.lv (LV.load tab_ok rfl (Has.own 1 rfl) rfl) rfl ?_ | refine RS.lv (LV.load tab_ok rfl (Has.own 2 rfl) rfl) rfl ?_ | refine RS.skip rfl ?_));
          (all_goals (first | refine RS.pv (PV.lenS tab_ok rfl rfl) rfl ?_ | refine RS.pv (PV.lenT tab_ok rfl rfl) rfl ?_ | refine RS.skip rfl ?_));
          (all_goals (first | refine RS.pv (PV.all tab_ok rfl) rfl ?_ | refine RS.pv (PV.eqlT rfl rfl (by omega)) rfl ?_ | refine RS.pv (PV.eqlF rfl rfl (by omega)) rfl ?_ | refine RS.ifEql rfl rfl rfl (fun h => ?_) (fun h => ?_) | refine RS.ifSeql rfl rfl rfl (fun h => ?_) (fun h => ?_) | refine RS.skip rfl ?_));
          (all_goals refine RS.pv (PV.all tab_ok rfl) rfl ?_);
          (all_goals refine RS.pv (PV.all tab_ok rfl) rfl ?_);
          (all_goals (first | refine RS.pv (PV.all tab_ok rfl) rfl ?_ | refine RS.skip rfl ?_));
          (all_goals (first | refine RS.lv (LV.load tab_ok rfl (Has.own 0 rfl) rfl) rfl ?_ | refine RS.lv (LV.load tab_ok rfl (Has.own 1 rfl) rfl) rfl ?_ | refine RS.lv (LV.load tab_ok rfl (Has.own 2 rfl) rfl) rfl ?_ | refine RS.skip rfl ?_));
          (all_goals (first | refine RS.pv (PV.lenS tab_ok rfl rfl) rfl ?_ | refine RS.pv (PV.lenT tab_ok rfl rfl) rfl ?_ | refine RS.skip rfl ?_));
          (all_goals (first | refine RS.pv (PV.all tab_ok rfl) rfl ?_ | refine RS.pv (PV.eqlT rfl rfl (by omega)) rfl ?_ | refine RS.pv (PV.eqlF rfl rfl (by omega)) rfl ?_ | refine RS.ifEql rfl rfl rfl (fun h => ?_) (fun h => ?_) | refine RS.ifSeql rfl rfl rfl (fun h => ?_) (fun h => ?_) | refine RS.skip rfl ?_));
          (all_goals refine RS.pv (PV.all tab_ok rfl) rfl ?_);
          (all_goals refine RS.pv (PV.all tab_ok rfl) rfl ?_);
          (all_goals (first | refine RS.pv (PV.all tab_ok rfl) rfl ?_ | refine RS.skip rfl ?_));
          (all_goals (first | refine RS.lv (LV.load tab_ok rfl (Has.own 0 rfl) rfl) rfl ?_ | refine RS.lv (LV.load tab_ok rfl (Has.own 1 rfl) rfl) rfl ?_ | refine RS.lv (LV.load tab_ok rfl (Has.own 2 rfl) rfl) rfl ?_ | refine RS.skip rfl ?_));
          (all_goals (first | refine RS.pv (PV.lenS tab_ok rfl rfl) rfl ?_ | refine RS.pv (PV.lenT tab_ok rfl rfl) rfl ?_ | refine RS.skip rfl ?_));
          (all_goals (first | refine RS.pv (PV.all tab_ok rfl) rfl ?_ | refine RS.pv (PV.eqlT rfl rfl (by omega)) rfl ?_ | refine RS.pv (PV.eqlF rfl rfl (by omega)) rfl ?_ | refine RS.ifEql rfl rfl rfl (fun h => ?_) (fun h => ?_) | refine RS.ifSeql rfl rfl rfl (fun h => ?_) (fun h => ?_) | refine RS.skip rfl ?_));
          (all_goals refine RS.pv (PV.all tab_ok rfl) rfl ?_);
          (all_goals refine RS.pv (PV.all tab_ok rfl) rfl ?_);
          (all_goals refine RS.nil ?_))
      | refine CS.ret ?_
      | refine thenQ.ret ?_
      | refine blkQ.ret ?_
      | refine retQ.ret ?_
      | refine CS.block ?_
      | refine CS.exit ?_
      | refine thenQ.exit ?_
      | refine blkQ.normal ?_
      | refine blkQ.here ?_
      | refine blkQ.past rfl ?_
      | refine retQ.normal ?_)
    exact ⟨[_], rfl, rfl, rfl⟩
  · repeat' (first
      | refine CS.seq ?_
      | refine thenQ.normal ?_
      | refine CS.cond_true rfl ?_
      | refine CS.cond_false rfl ?_
      | refine CS.skip ?_
      | (refine CS.region (id := 0) ?_;
          refine RS.box rfl rfl (fun b => ?_);
          refine RS.pv (PV.all tab_ok rfl) rfl ?_;
          refine RS.nil ?_)
      | (refine CS.region (id := 1) ?_;
          refine RS.pv (PV.all tab_ok rfl) rfl ?_;
          (first | refine RS.lv (LV.load tab_ok rfl (Has.own 0 rfl) rfl) rfl ?_ | refine RS.lv (LV.load tab_ok rfl (Has.own 1 rfl) rfl) rfl ?_ | refine RS.lv (LV.load tab_ok rfl (Has.own 2 rfl) rfl) rfl ?_);
          refine RS.pv (PV.all tab_ok rfl) rfl ?_;
          refine RS.pv (PV.all tab_ok rfl) rfl ?_;
          (first | refine RS.pv (PV.all tab_ok rfl) rfl ?_ | refine RS.skip rfl ?_);
          (first | refine RS.lv (LV.load tab_ok rfl (Has.own 0 rfl) rfl) rfl ?_ | refine RS.lv (LV.load tab_ok rfl (Has.own 1 rfl) rfl) rfl ?_ | refine RS.lv (LV.load tab_ok rfl (Has.own 2 rfl) rfl) rfl ?_ | refine RS.skip rfl ?_);
          (first | refine RS.pv (PV.all tab_ok rfl) rfl ?_ | refine RS.pv (PV.eqlT rfl rfl (by omega)) rfl ?_ | refine RS.pv (PV.eqlF rfl rfl (by omega)) rfl ?_ | refine RS.ifEql rfl rfl rfl (fun h => ?_) (fun h => ?_) | refine RS.ifSeql rfl rfl rfl (fun h => ?_) (fun h => ?_) | refine RS.skip rfl ?_);
          (all_goals refine RS.pv (PV.all tab_ok rfl) rfl ?_);
          (all_goals refine RS.pv (PV.all tab_ok rfl) rfl ?_);
          (all_goals (first | refine RS.pv (PV.all tab_ok rfl) rfl ?_ | refine RS.skip rfl ?_));
          (all_goals (first | refine RS.lv (LV.load tab_ok rfl (Has.own 0 rfl) rfl) rfl ?_ | refine RS.lv (LV.load tab_ok rfl (Has.own 1 rfl) rfl) rfl ?_ | refine RS.lv (LV.load tab_ok rfl (Has.own 2 rfl) rfl) rfl ?_ | refine RS.skip rfl ?_));
          (all_goals (first | refine RS.pv (PV.all tab_ok rfl) rfl ?_ | refine RS.skip rfl ?_));
          (all_goals refine RS.pv (PV.all tab_ok rfl) rfl ?_);
          (all_goals refine RS.pv (PV.all tab_ok rfl) rfl ?_);
          (all_goals (first | refine RS.pv (PV.all tab_ok rfl) rfl ?_ | refine RS.skip rfl ?_));
          (all_goals (first | refine RS.lv (LV.load tab_ok rfl (Has.own 0 rfl) rfl) rfl ?_ | refine RS.lv (LV.load tab_ok rfl (Has.own 1 rfl) rfl) rfl ?_ | refine RS.lv (LV.load tab_ok rfl (Has.own 2 rfl) rfl) rfl ?_ | refine RS.skip rfl ?_));
          (all_goals (first | refine RS.pv (PV.lenS tab_ok rfl rfl) rfl ?_ | refine RS.pv (PV.lenT tab_ok rfl rfl) rfl ?_ | refine RS.skip rfl ?_));
          (all_goals (first | refine RS.pv (PV.all tab_ok rfl) rfl ?_ | refine RS.pv (PV.eqlT rfl rfl (by omega)) rfl ?_ | refine RS.pv (PV.eqlF rfl rfl (by omega)) rfl ?_ | refine RS.ifEql rfl rfl rfl (fun h => ?_) (fun h => ?_) | refine RS.ifSeql rfl rfl rfl (fun h => ?_) (fun h => ?_) | refine RS.skip rfl ?_));
          (all_goals refine RS.pv (PV.all tab_ok rfl) rfl ?_);
          (all_goals refine RS.pv (PV.all tab_ok rfl) rfl ?_);
          (all_goals (first | refine RS.pv (PV.all tab_ok rfl) rfl ?_ | refine RS.skip rfl ?_));
          (all_goals (first | refine RS.lv (LV.load tab_ok rfl (Has.own 0 rfl) rfl) rfl ?_ | refine RS.lv (LV.load tab_ok rfl (Has.own 1 rfl) rfl) rfl ?_ | refine RS.lv (LV.load tab_ok rfl (Has.own 2 rfl) rfl) rfl ?_ | refine RS.skip rfl ?_));
          (all_goals (first | refine RS.pv (PV.lenS tab_ok rfl rfl) rfl ?_ | refine RS.pv (PV.lenT tab_ok rfl rfl) rfl ?_ | refine RS.skip rfl ?_));
          (all_goals (first | refine RS.pv (PV.all tab_ok rfl) rfl ?_ | refine RS.pv (PV.eqlT rfl rfl (by omega)) rfl ?_ | refine RS.pv (PV.eqlF rfl rfl (by omega)) rfl ?_ | refine RS.ifEql rfl rfl rfl (fun h => ?_) (fun h => ?_) | refine RS.ifSeql rfl rfl rfl (fun h => ?_) (fun h => ?_) | refine RS.skip rfl ?_));
          (all_goals refine RS.pv (PV.all tab_ok rfl) rfl ?_);
          (all_goals refine RS.pv (PV.all tab_ok rfl) rfl ?_);
          (all_goals (first | refine RS.pv (PV.all tab_ok rfl) rfl ?_ | refine RS.skip rfl ?_));
          (all_goals (first | refine RS.lv (LV.load tab_ok rfl (Has.own 0 rfl) rfl) rfl ?_ | refine RS.lv (LV.load tab_ok rfl (Has.own 1 rfl) rfl) rfl ?_ | refine RS.lv (LV.load tab_ok rfl (Has.own 2 rfl) rfl) rfl ?_ | refine RS.skip rfl ?_));
          (all_goals (first | refine RS.pv (PV.lenS tab_ok rfl rfl) rfl ?_ | refine RS.pv (PV.lenT tab_ok rfl rfl) rfl ?_ | refine RS.skip rfl ?_));
          (all_goals (first | refine RS.pv (PV.all tab_ok rfl) rfl ?_ | refine RS.pv (PV.eqlT rfl rfl (by omega)) rfl ?_ | refine RS.pv (PV.eqlF rfl rfl (by omega)) rfl ?_ | refine RS.ifEql rfl rfl rfl (fun h => ?_) (fun h => ?_) | refine RS.ifSeql rfl rfl rfl (fun h => ?_) (fun h => ?_) | refine RS.skip rfl ?_));
          (all_goals refine RS.pv (PV.all tab_ok rfl) rfl ?_);
          (all_goals refine RS.pv (PV.all tab_ok rfl) rfl ?_);
          (all_goals (first | refine RS.pv (PV.all tab_ok rfl) rfl ?_ | refine RS.skip rfl ?_));
          (all_goals (first | refine RS.lv (LV.load tab_ok rfl (Has.own 0 rfl) rfl) rfl ?_ | refine RS.lv (LV.load tab_ok rfl (Has.own 1 rfl) rfl) rfl ?_ | refine RS.lv (LV.load tab_ok rfl (Has.own 2 rfl) rfl) rfl ?_ | refine RS.skip rfl ?_));
          (all_goals (first | refine RS.pv (PV.lenS tab_ok rfl rfl) rfl ?_ | refine RS.pv (PV.lenT tab_ok rfl rfl) rfl ?_ | refine RS.skip rfl ?_));
          (all_goals (first | refine RS.pv (PV.all tab_ok rfl) rfl ?_ | refine RS.pv (PV.eqlT rfl rfl (by omega)) rfl ?_ | refine RS.pv (PV.eqlF rfl rfl (by omega)) rfl ?_ | refine RS.ifEql rfl rfl rfl (fun h => ?_) (fun h => ?_) | refine RS.ifSeql rfl rfl rfl (fun h => ?_) (fun h => ?_) | refine RS.skip rfl ?_));
          (all_goals refine RS.pv (PV.all tab_ok rfl) rfl ?_);
          (all_goals refine RS.pv (PV.all tab_ok rfl) rfl ?_);
          (all_goals refine RS.nil ?_))
      | refine CS.ret ?_
      | refine thenQ.ret ?_
      | refine blkQ.ret ?_
      | refine retQ.ret ?_
      | refine CS.block ?_
      | refine CS.exit ?_
      | refine thenQ.exit ?_
      | refine blkQ.normal ?_
      | refine blkQ.here ?_
      | refine blkQ.past rfl ?_
      | refine retQ.normal ?_)
    exact ⟨[_], rfl, rfl, rfl⟩
def kA : WorldD := ⟨[], [[Value.string (⟨#[115, 100, 97]⟩ : ByteArray), .int .i64 0, .int .i64 0, .string ByteArray.empty, .string ByteArray.empty, .int .i64 0, .string ByteArray.empty]], [], [], [(⟨#[104, 105, 100]⟩ : ByteArray)]⟩
def kB : WorldD := ⟨[], [[Value.string (⟨#[115, 100, 97]⟩ : ByteArray), .int .i64 0, .int .i64 0, .string ByteArray.empty, .string ByteArray.empty, .int .i64 1, .string ByteArray.empty], [Value.string (⟨#[115, 100, 98]⟩ : ByteArray), .int .i64 0, .int .i64 0, .string ByteArray.empty, .string ByteArray.empty, .int .i64 0, .string ByteArray.empty]], [], [], []⟩
def kL : List Diff := [⟨2, 3, (⟨#[115, 100, 97]⟩ : ByteArray)⟩, ⟨2, 1, (⟨#[115, 100, 98]⟩ : ByteArray)⟩, ⟨5, 2, (⟨#[104, 105, 100]⟩ : ByteArray)⟩]
theorem k_shp (s : ByteArray) (m : Int) : shp kNode [Value.string s, .int .i64 0, .int .i64 0, .string ByteArray.empty, .string ByteArray.empty, .int .i64 m, .string ByteArray.empty] := ⟨⟨_, rfl⟩, ⟨_, rfl⟩, ⟨_, rfl⟩, ⟨_, rfl⟩, ⟨_, rfl⟩, ⟨_, rfl⟩, ⟨_, rfl⟩, trivial⟩
theorem kA_ok : kA.ok := by
  refine ⟨nofun, fun c hc => ?_, nofun, nofun, fun s hs => ?_⟩
  · simp only [kA, List.mem_cons, List.not_mem_nil, or_false] at hc
    subst hc
    exact ⟨k_shp _ _, by decide⟩
  · simp only [kA, List.mem_cons, List.not_mem_nil, or_false] at hs
    subst hs
    decide
theorem kB_ok : kB.ok := by
  refine ⟨nofun, fun c hc => ?_, nofun, nofun, nofun⟩
  simp only [kB, List.mem_cons, List.not_mem_nil, or_false] at hc
  rcases hc with rfl | rfl
  · exact ⟨k_shp _ _, by decide⟩
  · exact ⟨k_shp _ _, by decide⟩
theorem kA_few : kA.few := ⟨by decide, by decide, by decide, by decide, by decide⟩
theorem kB_few : kB.few := ⟨by decide, by decide, by decide, by decide, by decide⟩
theorem k_diff : WDiff kA kB kL := by
  refine ⟨[], [⟨2, 3, (⟨#[115, 100, 97]⟩ : ByteArray)⟩, ⟨2, 1, (⟨#[115, 100, 98]⟩ : ByteArray)⟩], [], [], [⟨5, 2, (⟨#[104, 105, 100]⟩ : ByteArray)⟩], ⟨[], List.Pairwise.nil, fun a => by simp [kA, kB], rfl⟩, ⟨[(⟨#[115, 100, 97]⟩ : ByteArray), (⟨#[115, 100, 98]⟩ : ByteArray)], ?_, fun a => ?_, ?_⟩, ⟨[], List.Pairwise.nil, fun a => by simp [kA, kB], rfl⟩, ⟨[], List.Pairwise.nil, fun a => by simp [kA, kB], rfl⟩, ⟨[(⟨#[104, 105, 100]⟩ : ByteArray)], ?_, fun a => by simp [kA, kB], ?_⟩, rfl⟩
  · refine List.pairwise_cons.2 ⟨fun b hb => ?_, List.pairwise_cons.2 ⟨nofun, List.Pairwise.nil⟩⟩
    simp only [List.mem_cons, List.not_mem_nil, or_false] at hb
    subst hb
    rw [bl_iff]
    decide
  · simp only [kA, kB, List.map_cons, List.map_nil, nm0, List.mem_cons, List.not_mem_nil, or_false]
    constructor
    · exact .inr
    · rintro (h | h)
      · exact .inl h
      · exact h
  · rfl
  · exact List.pairwise_cons.2 ⟨nofun, List.Pairwise.nil⟩
  · rfl
theorem known_38 (i : Imm) (L : SH) : FnS Try.prog 38 [] i L fun v _ L' => v = .bool true ∧ L' = L := by
  refine FnS.state (K := fun v _ L' => ∃ M, v = .bool true ∧ L' = M ++ L) ?_ ?_
  rotate_left
  · rintro v i' L' w _ hs ⟨M, hv, rfl⟩
    exact ⟨i', _, Imm.le.refl i', hs.dropL, hv, rfl⟩
  refine FnS.intro1 Try.func38 rfl Try.ntmps38 (by simp) Try.results38 ?_
  repeat' (first
    | refine CS.seq ?_
    | refine thenQ.normal ?_
    | refine CS.cond_true rfl ?_
    | refine CS.cond_false rfl ?_
    | refine CS.skip ?_
    | (refine CS.region (id := 0) ?_;
        refine RS.pv (PV.all tab_ok rfl) rfl ?_;
        refine RS.nil ?_)
    | (refine CS.region (id := 1) ?_;
        refine RS.pv (PV.all tab_ok rfl) rfl ?_;
        refine RS.buildSliceF tab_ok 7 rfl rfl rfl (fun bn i1 hi1 hsn => ?_);
        (all_goals refine RS.buildSliceF tab_ok 1 rfl rfl rfl (fun bm i2 hi2 hsm => ?_));
        (all_goals refine RS.pv (PV.all tab_ok rfl) rfl ?_);
        (all_goals refine RS.alloc tab_ok rfl rfl (fun b => ?_));
        (all_goals (first | refine RS.store (k := 0) tab_ok rfl rfl rfl rfl rfl rfl rfl rfl ?_ | refine RS.store (k := 1) tab_ok rfl rfl rfl rfl rfl rfl rfl rfl ?_ | refine RS.store (k := 2) tab_ok rfl rfl rfl rfl rfl rfl rfl rfl ?_));
        (all_goals refine RS.nil ?_))
    | (refine CS.region (id := 2) ?_;
        refine RS.pv (PV.all tab_ok rfl) rfl ?_;
        refine RS.pv (PV.all tab_ok rfl) rfl ?_;
        refine RS.buildSliceF tab_ok 7 rfl rfl rfl (fun bk i3 hi3 hsk => ?_);
        (all_goals refine RS.pv (PV.all tab_ok rfl) rfl ?_);
        (all_goals refine RS.alloc tab_ok rfl rfl (fun b => ?_));
        (all_goals (first | refine RS.store (k := 0) tab_ok rfl rfl rfl rfl rfl rfl rfl rfl ?_ | refine RS.store (k := 1) tab_ok rfl rfl rfl rfl rfl rfl rfl rfl ?_ | refine RS.store (k := 2) tab_ok rfl rfl rfl rfl rfl rfl rfl rfl ?_));
        (all_goals refine RS.nil ?_))
    | refine CS.ret ?_
    | refine thenQ.ret ?_
    | refine blkQ.ret ?_
    | refine retQ.ret ?_
    | refine CS.block ?_
    | refine CS.exit ?_
    | refine thenQ.exit ?_
    | refine blkQ.normal ?_
    | refine blkQ.here ?_
    | refine blkQ.past rfl ?_
    | refine retQ.normal ?_)
  have wA : WorldV i3 [.slice none 0 0, .slice (some ⟨bn, 0, none⟩) 1 1, .slice none 0 0, .slice none 0 0, .slice (some ⟨bm, 0, none⟩) 1 1] kA := ⟨_, _, _, _, _, rfl, Sl.nil _ _, (hsn.le hi2).le hi3, Sl.nil _ _, Sl.nil _ _, hsm.le hi3, nofun⟩
  have wB : WorldV i3 [.slice none 0 0, .slice (some ⟨bk, 0, none⟩) 2 2, .slice none 0 0, .slice none 0 0, .slice none 0 0] kB := ⟨_, _, _, _, _, rfl, Sl.nil _ _, hsk, Sl.nil _ _, Sl.nil _ _, Sl.nil _ _, nofun⟩
  repeat' (first
    | refine CS.seq ?_
    | refine thenQ.normal ?_
    | refine CS.cond_true rfl ?_
    | refine CS.cond_false rfl ?_
    | refine CS.skip ?_
    | (refine CS.region (id := 3) ?_;
        (first | refine RS.lv (LV.load tab_ok rfl (Has.own 0 rfl) rfl) rfl ?_ | refine RS.lv (LV.load tab_ok rfl (Has.own 1 rfl) rfl) rfl ?_ | refine RS.lv (LV.load tab_ok rfl (Has.own 2 rfl) rfl) rfl ?_);
        (first | refine RS.lv (LV.load tab_ok rfl (Has.own 0 rfl) rfl) rfl ?_ | refine RS.lv (LV.load tab_ok rfl (Has.own 1 rfl) rfl) rfl ?_ | refine RS.lv (LV.load tab_ok rfl (Has.own 2 rfl) rfl) rfl ?_);
        (refine RS.call (Compare_40 _ _ kA kB _ _ wA wB kA_ok kB_ok kA_few kB_few) rfl (by kernel_rfl) rfl ?_; rintro v i5 L5 hi5 ⟨hL5, l, hs, hd, -⟩; subst hL5; obtain rfl := hd.unique k_diff; obtain ⟨ao, cap, hv, -, hx⟩ := hs; have hv' : v = .slice ao 3 cap := hv; subst hv');
        (all_goals refine RS.pv (PV.all tab_ok rfl) rfl ?_);
        (all_goals refine RS.nil ?_))
    | refine CS.ret ?_
    | refine thenQ.ret ?_
    | refine blkQ.ret ?_
    | refine retQ.ret ?_
    | refine CS.block ?_
    | refine CS.exit ?_
    | refine thenQ.exit ?_
    | refine blkQ.normal ?_
    | refine blkQ.here ?_
    | refine blkQ.past rfl ?_
    | refine retQ.normal ?_)
  rcases hx with hx | ⟨bq, o, cs, t, fz, rfl, g, h⟩
  · cases hx
  have q0 : ∀ d u, [Value.int .i64 2, .int .i64 3, .string (⟨#[115, 100, 97]⟩ : ByteArray)][d]? = some u → cs[o + (0 : Int).toNat * 3 + d]? = some u := fun d u hu => by
    have hd : d < 3 := (List.getElem?_eq_some_iff.1 hu).1
    rw [show o + (0 : Int).toNat * 3 + d = o + d by simp, h d (by show d < 9; omega), ← hu]
    rcases (by omega : d = 0 ∨ d = 1 ∨ d = 2) with rfl | rfl | rfl <;> rfl
  have q1 : ∀ d u, [Value.int .i64 2, .int .i64 1, .string (⟨#[115, 100, 98]⟩ : ByteArray)][d]? = some u → cs[o + (1 : Int).toNat * 3 + d]? = some u := fun d u hu => by
    have hd : d < 3 := (List.getElem?_eq_some_iff.1 hu).1
    rw [show o + (1 : Int).toNat * 3 + d = o + (3 + d) by simp; omega, h (3 + d) (by show 3 + d < 9; omega), ← hu]
    rcases (by omega : d = 0 ∨ d = 1 ∨ d = 2) with rfl | rfl | rfl <;> rfl
  have q2 : ∀ d u, [Value.int .i64 5, .int .i64 2, .string (⟨#[104, 105, 100]⟩ : ByteArray)][d]? = some u → cs[o + (2 : Int).toNat * 3 + d]? = some u := fun d u hu => by
    have hd : d < 3 := (List.getElem?_eq_some_iff.1 hu).1
    rw [show o + (2 : Int).toNat * 3 + d = o + (6 + d) by simp; omega, h (6 + d) (by show 6 + d < 9; omega), ← hu]
    rcases (by omega : d = 0 ∨ d = 1 ∨ d = 2) with rfl | rfl | rfl <;> rfl
  have s0 : allEq [Value.int .i64 2, .int .i64 3, .string (⟨#[115, 100, 97]⟩ : ByteArray)] [Value.int .i64 2, .int .i64 3, .string (⟨#[115, 100, 97]⟩ : ByteArray)] = true := by simp [allEq, scEq]
  have s1 : allEq [Value.int .i64 2, .int .i64 1, .string (⟨#[115, 100, 98]⟩ : ByteArray)] [Value.int .i64 2, .int .i64 1, .string (⟨#[115, 100, 98]⟩ : ByteArray)] = true := by simp [allEq, scEq]
  have s2 : allEq [Value.int .i64 5, .int .i64 2, .string (⟨#[104, 105, 100]⟩ : ByteArray)] [Value.int .i64 5, .int .i64 2, .string (⟨#[104, 105, 100]⟩ : ByteArray)] = true := by simp [allEq, scEq]
  repeat' (first
    | refine CS.seq ?_
    | refine thenQ.normal ?_
    | refine CS.cond_true rfl ?_
    | refine CS.cond_false rfl ?_
    | refine CS.skip ?_
    | (refine CS.region (id := 4) ?_;
        refine RS.pv (PV.all tab_ok rfl) rfl ?_;
        (first | refine RS.pv (PV.lenS tab_ok rfl rfl) rfl ?_ | refine RS.pv (PV.lenT tab_ok rfl rfl) rfl ?_);
        (first | refine RS.pv (PV.all tab_ok rfl) rfl ?_ | refine RS.pv (PV.eqlT rfl rfl (by omega)) rfl ?_ | refine RS.pv (PV.eqlF rfl rfl (by omega)) rfl ?_ | refine RS.ifEql rfl rfl rfl (fun h => ?_) (fun h => ?_) | refine RS.ifSeql rfl rfl rfl (fun h => ?_) (fun h => ?_));
        (all_goals refine RS.pv (PV.all tab_ok rfl) rfl ?_);
        (all_goals (first | refine RS.pv (PV.all tab_ok rfl) rfl ?_ | refine RS.skip rfl ?_));
        (all_goals (first | refine RS.pv (PV.indexAddr tab_ok rfl rfl rfl (by omega)) rfl ?_ | refine RS.pv (PV.indexAddrA tab_ok rfl rfl rfl (by omega)) rfl ?_ | refine RS.skip rfl ?_));
        (all_goals refine RS.lv (LV.loadL tab_ok rfl (Has.imm g) (l := [Value.int .i64 2, .int .i64 3, .string (⟨#[115, 100, 97]⟩ : ByteArray)]) rfl rfl rfl q0) rfl ?_);
        (all_goals (first | refine RS.pv (PV.all tab_ok rfl) rfl ?_ | refine RS.skip rfl ?_));
        (all_goals refine RS.pv (PV.steqlB tab_ok (by kernel_rfl) (by kernel_rfl) rfl rfl (by kernel_rfl) s0) rfl ?_);
        (all_goals refine RS.pv (PV.all tab_ok rfl) rfl ?_);
        (all_goals refine RS.pv (PV.all tab_ok rfl) rfl ?_);
        (all_goals (first | refine RS.pv (PV.all tab_ok rfl) rfl ?_ | refine RS.skip rfl ?_));
        (all_goals (first | refine RS.pv (PV.indexAddr tab_ok rfl rfl rfl (by omega)) rfl ?_ | refine RS.pv (PV.indexAddrA tab_ok rfl rfl rfl (by omega)) rfl ?_ | refine RS.skip rfl ?_));
        (all_goals refine RS.lv (LV.loadL tab_ok rfl (Has.imm g) (l := [Value.int .i64 2, .int .i64 1, .string (⟨#[115, 100, 98]⟩ : ByteArray)]) rfl rfl rfl q1) rfl ?_);
        (all_goals (first | refine RS.pv (PV.all tab_ok rfl) rfl ?_ | refine RS.skip rfl ?_));
        (all_goals refine RS.pv (PV.steqlB tab_ok (by kernel_rfl) (by kernel_rfl) rfl rfl (by kernel_rfl) s1) rfl ?_);
        (all_goals refine RS.pv (PV.all tab_ok rfl) rfl ?_);
        (all_goals refine RS.pv (PV.all tab_ok rfl) rfl ?_);
        (all_goals (first | refine RS.pv (PV.all tab_ok rfl) rfl ?_ | refine RS.skip rfl ?_));
        (all_goals (first | refine RS.pv (PV.indexAddr tab_ok rfl rfl rfl (by omega)) rfl ?_ | refine RS.pv (PV.indexAddrA tab_ok rfl rfl rfl (by omega)) rfl ?_ | refine RS.skip rfl ?_));
        (all_goals refine RS.lv (LV.loadL tab_ok rfl (Has.imm g) (l := [Value.int .i64 5, .int .i64 2, .string (⟨#[104, 105, 100]⟩ : ByteArray)]) rfl rfl rfl q2) rfl ?_);
        (all_goals (first | refine RS.pv (PV.all tab_ok rfl) rfl ?_ | refine RS.skip rfl ?_));
        (all_goals refine RS.pv (PV.steqlB tab_ok (by kernel_rfl) (by kernel_rfl) rfl rfl (by kernel_rfl) s2) rfl ?_);
        (all_goals refine RS.pv (PV.all tab_ok rfl) rfl ?_);
        (all_goals refine RS.pv (PV.all tab_ok rfl) rfl ?_);
        (all_goals (first | refine RS.pv (PV.all tab_ok rfl) rfl ?_ | refine RS.skip rfl ?_));
        (all_goals (refine RS.call (Quiet_62 false _ _) rfl (by kernel_rfl) rfl ?_; rintro v i7 L7 hi7 ⟨rfl, rfl, rfl⟩));
        (all_goals refine RS.pv (PV.all tab_ok rfl) rfl ?_);
        (all_goals refine RS.pv (PV.all tab_ok rfl) rfl ?_);
        (all_goals (first | refine RS.pv (PV.all tab_ok rfl) rfl ?_ | refine RS.skip rfl ?_));
        (all_goals (refine RS.call (Quiet_62 true _ _) rfl (by kernel_rfl) rfl ?_; rintro v i8 L8 hi8 ⟨rfl, rfl, rfl⟩));
        (all_goals (first | refine RS.pv (PV.all tab_ok rfl) rfl ?_ | refine RS.skip rfl ?_));
        (all_goals refine RS.pv (PV.all tab_ok rfl) rfl ?_);
        (all_goals refine RS.pv (PV.all tab_ok rfl) rfl ?_);
        (all_goals refine RS.nil ?_))
    | refine CS.ret ?_
    | refine thenQ.ret ?_
    | refine blkQ.ret ?_
    | refine retQ.ret ?_
    | refine CS.block ?_
    | refine CS.exit ?_
    | refine thenQ.exit ?_
    | refine blkQ.normal ?_
    | refine blkQ.here ?_
    | refine blkQ.past rfl ?_
    | refine retQ.normal ?_)
  exact ⟨[_, _], rfl, rfl⟩
end Go.Proofs.Ytmcajldlcomegaa
