/- Lists of jobs compared; made paths. -/
import Derived.Test.YtmcajldlcomegaaW28
namespace Go.Proofs.Ytmcajldlcomegaa
open Go Go.Eng

theorem Sl_job {i : Imm} {v : Value} {n k : Nat} {cs : List Value} {l : List JobD} {j : JobD} (h : Sl i v 14 n cs) (hr : Rw (JobV i) cs l) (hn : n = l.length) (hk : l[k]? = some j) :
    ∃ b off cc t fz cap rc, v = .slice (some ⟨b, off, none⟩) n cap ∧ i.blk b = some (.cells (List.toArray cc) t fz) ∧ RecV i rc j.rcd ∧ ∀ d u, (.int .i64 j.index :: .int .i64 j.left :: rc : List Value)[d]? = some u → cc[off + ((k : Nat) : Int).toNat * 14 + d]? = some u := by
  have hlt : k < n := by rw [hn]; exact (List.getElem?_eq_some_iff.1 hk).1
  obtain ⟨b, off, cc, t, fz, cap, rfl, hb, hc⟩ := h.at hlt (by omega)
  obtain ⟨r, hrj, hrc⟩ := Rw.at (V := JobV i) JobV.len hr hk
  have h14 := JobV.len r j hrj
  obtain ⟨rc, rfl, h2⟩ := hrj
  refine ⟨b, off, cc, t, fz, cap, rc, rfl, hb, h2, fun d u hu => ?_⟩
  have hd : d < 14 := by rw [← h14]; exact (List.getElem?_eq_some_iff.1 hu).1
  rw [hc d hd, hrc d hd, hu]
open Classical in
theorem SameJobs_s (va vb : Value) (n : Nat) (l : List JobD) (ca cb : List Value) (i : Imm) (L : SH) (ha : Sl i va 14 n ca) (hb : Sl i vb 14 n cb) (hra : Rw (JobV i) ca l) (hrb : Rw (JobV i) cb l) (hn : n = l.length) (hok : ∀ j ∈ l, j.rcd.ok) (hlen : n ≤ 1000000) :
    FnS Try.prog 25 [va, vb] i L fun v i' L' => v = .bool true ∧ i' = i ∧ L' = L := by
  obtain ⟨aa, ac, hva, _⟩ := id ha
  obtain ⟨ba, bc, hvb, _⟩ := id hb
  subst hva
  subst hvb
  refine FnS.intro1 Try.func25 rfl Try.ntmps25 (by simp) Try.results25 ?_
  repeat' (first
    | refine CS.seq ?_
    | refine thenQ.normal ?_
    | refine CS.cond_true rfl ?_
    | refine CS.cond_false rfl ?_
    | refine CS.skip ?_
    | (refine CS.region (id := 0) ?_;
        refine RS.pv (PV.all tab_ok rfl) rfl ?_;
        refine RS.nil ?_)
    | (refine CS.region (id := 1) ?_;
        refine RS.pv (PV.all tab_ok rfl) rfl ?_;
        (first | refine RS.pv (PV.lenS tab_ok rfl rfl) rfl ?_ | refine RS.pv (PV.lenT tab_ok rfl rfl) rfl ?_);
        refine RS.pv (PV.all tab_ok rfl) rfl ?_;
        (first | refine RS.pv (PV.lenS tab_ok rfl rfl) rfl ?_ | refine RS.pv (PV.lenT tab_ok rfl rfl) rfl ?_);
        (first | refine RS.pv (PV.all tab_ok rfl) rfl ?_ | refine RS.pv (PV.neqT rfl rfl (by omega)) rfl ?_ | refine RS.pv (PV.neqF rfl rfl (by omega)) rfl ?_ | refine RS.ifNeq rfl rfl rfl (fun h => ?_) (fun h => ?_) | refine RS.ifSneq rfl rfl rfl (fun h => ?_) (fun h => ?_));
        (all_goals refine RS.nil ?_))
    | (refine CS.region (id := 2) ?_;
        refine RS.pv (PV.all tab_ok rfl) rfl ?_;
        refine RS.nil ?_)
    | (refine CS.region (id := 3) ?_;
        refine RS.pv (PV.all tab_ok rfl) rfl ?_;
        refine RS.nil ?_)
    | refine CS.ret ?_
    | refine thenQ.ret ?_
    | refine blkQ.ret ?_
    | refine retQ.ret ?_
    | refine CS.block ?_
    | refine CS.exit ?_
    | refine thenQ.exit ?_
    | refine blkQ.normal ?_
    | refine blkQ.here ?_
    | refine blkQ.past rfl ?_
    | refine retQ.normal ?_)
  refine CS.loop [0, 1, 5] (fun m vs i' L' => ∃ k : Nat, m = n - k ∧ k ≤ n ∧ vs = [.slice aa n ac, .slice ba n bc, .int .i64 (k : Int)] ∧ i' = i ∧ L' = L) n ⟨0, rfl, Nat.zero_le _, rfl, rfl, rfl⟩ ?_
  rintro m g vs i' L' hi ⟨k, rfl, hk, rfl, rfl, rfl⟩
  by_cases hlt : k < n
  · obtain ⟨j, hj⟩ : ∃ j, l[k]? = some j := ⟨_, List.getElem?_eq_getElem (by omega)⟩
    obtain ⟨b1, o1, cc1, t1, z1, p1, rc1, e1, g1, hr1, hc1⟩ := Sl_job ha hra hn hj
    obtain ⟨b9, o9, cc9, t9, z9, p9, rc9, e9, g9, hr9, hc9⟩ := Sl_job hb hrb hn hj
    cases e1
    cases e9
    have hS := Same_s _ _ j.rcd j.rcd i' L' hr1 hr9 (hok j (List.mem_of_getElem? hj)).small
    obtain ⟨a2, c2, a3, c3, a4, c4, a5, c5, a6, c6, rfl⟩ := hr1.lit
    obtain ⟨b2, d2, b3, d3, b4, d4, b5, d5, b6, d6, rfl⟩ := hr9.lit
    have i1 := hc1 0 _ rfl
    have i9 := hc9 0 _ rfl
    have l1 := hc1 1 _ rfl
    have l9 := hc9 1 _ rfl
    have q1 : ∀ (d : Nat) (u : Value), ([.string j.rcd.path, .int .i64 j.rcd.index, .slice a2 j.rcd.props.length c2, .slice a3 j.rcd.tags.length c3, .slice a4 j.rcd.links.length c4, .slice a5 j.rcd.run.length c5, .slice a6 j.rcd.load.length c6, .string j.rcd.name, .int .i64 j.rcd.priority, .string j.rcd.owner, .string j.rcd.group, .int .i64 j.rcd.mode] : List Value)[d]? = some u → cc1[o1 + ((k : Nat) : Int).toNat * 14 + 2 + d]? = some u := fun d u hu => by
      rw [Nat.add_assoc _ 2 d, Nat.add_comm 2 d]; exact hc1 (d + 2) u hu
    have q9 : ∀ (d : Nat) (u : Value), ([.string j.rcd.path, .int .i64 j.rcd.index, .slice b2 j.rcd.props.length d2, .slice b3 j.rcd.tags.length d3, .slice b4 j.rcd.links.length d4, .slice b5 j.rcd.run.length d5, .slice b6 j.rcd.load.length d6, .string j.rcd.name, .int .i64 j.rcd.priority, .string j.rcd.owner, .string j.rcd.group, .int .i64 j.rcd.mode] : List Value)[d]? = some u → cc9[o9 + ((k : Nat) : Int).toNat * 14 + 2 + d]? = some u := fun d u hu => by
      rw [Nat.add_assoc _ 2 d, Nat.add_comm 2 d]; exact hc9 (d + 2) u hu
    repeat' (first
      | refine CS.seq ?_
      | refine thenQ.normal ?_
      | refine CS.cond_true rfl ?_
      | refine CS.cond_false rfl ?_
      | refine CS.skip ?_
      | (refine CS.region (id := 0) ?_;
          refine RS.pv (PV.all tab_ok rfl) rfl ?_;
          refine RS.nil ?_)
      | (refine CS.region (id := 2) ?_;
          refine RS.pv (PV.all tab_ok rfl) rfl ?_;
          refine RS.nil ?_)
      | (refine CS.region (id := 4) ?_;
          refine RS.pv (PV.all tab_ok rfl) rfl ?_;
          refine RS.pv (PV.all tab_ok rfl) rfl ?_;
          (first | refine RS.pv (PV.lenS tab_ok rfl rfl) rfl ?_ | refine RS.pv (PV.lenT tab_ok rfl rfl) rfl ?_);
          (first | refine RS.pv (PV.lssT rfl rfl (by omega)) rfl ?_ | refine RS.pv (PV.lssF rfl rfl (by omega)) rfl ?_ | refine RS.ifLss rfl rfl rfl (fun h => ?_) (fun h => ?_));
          (all_goals refine RS.nil ?_))
      | (refine CS.region (id := 5) ?_;
          refine RS.pv (PV.all tab_ok rfl) rfl ?_;
          refine RS.pv (PV.add rfl rfl (by omega)) rfl ?_;
          refine RS.pv (PV.all tab_ok rfl) rfl ?_;
          refine RS.nil ?_)
      | (refine CS.drawQ (id := 6) mix (by kernel_rfl) ?_;
          refine QS.pv (PV.all tab_ok rfl) rfl ?_;
          refine QS.pv (PV.all tab_ok rfl) rfl ?_;
          (first | refine QS.pv (PV.indexAddr tab_ok rfl rfl rfl (by omega)) rfl ?_ | refine QS.pv (PV.indexAddrA tab_ok rfl rfl rfl (by omega)) rfl ?_);
          refine QS.pv (PV.all tab_ok rfl) rfl ?_;
          refine QS.lv (LV.load1 tab_ok rfl (Has.imm g1) rfl i1) rfl ?_;
          (all_goals refine QS.pv (PV.all tab_ok rfl) rfl ?_);
          (all_goals refine QS.pv (PV.all tab_ok rfl) rfl ?_);
          (all_goals (first | refine QS.pv (PV.indexAddr tab_ok rfl rfl rfl (by omega)) rfl ?_ | refine QS.pv (PV.indexAddrA tab_ok rfl rfl rfl (by omega)) rfl ?_));
          (all_goals refine QS.pv (PV.all tab_ok rfl) rfl ?_);
          (all_goals refine QS.lv (LV.load1 tab_ok rfl (Has.imm g9) rfl i9) rfl ?_);
          (all_goals (first | refine QS.pv (PV.all tab_ok rfl) rfl ?_ | refine QS.pv (PV.neqT rfl rfl (by omega)) rfl ?_ | refine QS.pv (PV.neqF rfl rfl (by omega)) rfl ?_ | refine QS.ifNeq rfl rfl rfl (fun h => ?_) (fun h => ?_) | refine QS.ifSneq rfl rfl rfl (fun h => ?_) (fun h => ?_)));
          (all_goals refine QS.pv (PV.all tab_ok rfl) rfl ?_);
          (all_goals (first | refine QS.pv (PV.all tab_ok rfl) rfl ?_ | refine QS.skip rfl ?_));
          (all_goals (first | refine QS.pv (PV.all tab_ok rfl) rfl ?_ | refine QS.skip rfl ?_));
          (all_goals (first | refine QS.pv (PV.indexAddr tab_ok rfl rfl rfl (by omega)) rfl ?_ | refine QS.pv (PV.indexAddrA tab_ok rfl rfl rfl (by omega)) rfl ?_ | refine QS.skip rfl ?_));
          (all_goals (first | refine QS.pv (PV.all tab_ok rfl) rfl ?_ | refine QS.skip rfl ?_));
          (all_goals refine QS.lv (LV.load1 tab_ok rfl (Has.imm g1) rfl l1) rfl ?_);
          (all_goals (first | refine QS.pv (PV.all tab_ok rfl) rfl ?_ | refine QS.skip rfl ?_));
          (all_goals (first | refine QS.pv (PV.all tab_ok rfl) rfl ?_ | refine QS.skip rfl ?_));
          (all_goals (first | refine QS.pv (PV.indexAddr tab_ok rfl rfl rfl (by omega)) rfl ?_ | refine QS.pv (PV.indexAddrA tab_ok rfl rfl rfl (by omega)) rfl ?_ | refine QS.skip rfl ?_));
          (all_goals (first | refine QS.pv (PV.all tab_ok rfl) rfl ?_ | refine QS.skip rfl ?_));
          (all_goals refine QS.lv (LV.load1 tab_ok rfl (Has.imm g9) rfl l9) rfl ?_);
          (all_goals (first | refine QS.pv (PV.all tab_ok rfl) rfl ?_ | refine QS.pv (PV.neqT rfl rfl (by omega)) rfl ?_ | refine QS.pv (PV.neqF rfl rfl (by omega)) rfl ?_ | refine QS.ifNeq rfl rfl rfl (fun h => ?_) (fun h => ?_) | refine QS.ifSneq rfl rfl rfl (fun h => ?_) (fun h => ?_) | refine QS.skip rfl ?_));
          (all_goals refine QS.pv (PV.all tab_ok rfl) rfl ?_);
          (all_goals refine QS.pv (PV.all tab_ok rfl) rfl ?_);
          (all_goals (first | refine QS.pv (PV.all tab_ok rfl) rfl ?_ | refine QS.skip rfl ?_));
          (all_goals (first | refine QS.pv (PV.all tab_ok rfl) rfl ?_ | refine QS.skip rfl ?_));
          (all_goals (first | refine QS.pv (PV.indexAddr tab_ok rfl rfl rfl (by omega)) rfl ?_ | refine QS.pv (PV.indexAddrA tab_ok rfl rfl rfl (by omega)) rfl ?_ | refine QS.skip rfl ?_));
          (all_goals (first | refine QS.pv (PV.all tab_ok rfl) rfl ?_ | refine QS.skip rfl ?_));
          (all_goals refine QS.lv (LV.loadL tab_ok rfl (Has.imm g1) (l := [.string j.rcd.path, .int .i64 j.rcd.index, .slice a2 j.rcd.props.length c2, .slice a3 j.rcd.tags.length c3, .slice a4 j.rcd.links.length c4, .slice a5 j.rcd.run.length c5, .slice a6 j.rcd.load.length c6, .string j.rcd.name, .int .i64 j.rcd.priority, .string j.rcd.owner, .string j.rcd.group, .int .i64 j.rcd.mode]) rfl rfl rfl q1) rfl ?_);
          (all_goals (first | refine QS.pv (PV.all tab_ok rfl) rfl ?_ | refine QS.skip rfl ?_));
          (all_goals (first | refine QS.pv (PV.all tab_ok rfl) rfl ?_ | refine QS.skip rfl ?_));
          (all_goals (first | refine QS.pv (PV.indexAddr tab_ok rfl rfl rfl (by omega)) rfl ?_ | refine QS.pv (PV.indexAddrA tab_ok rfl rfl rfl (by omega)) rfl ?_ | refine QS.skip rfl ?_));
          (all_goals (first | refine QS.pv (PV.all tab_ok rfl) rfl ?_ | refine QS.skip rfl ?_));
          (all_goals refine QS.lv (LV.loadL tab_ok rfl (Has.imm g9) (l := [.string j.rcd.path, .int .i64 j.rcd.index, .slice b2 j.rcd.props.length d2, .slice b3 j.rcd.tags.length d3, .slice b4 j.rcd.links.length d4, .slice b5 j.rcd.run.length d5, .slice b6 j.rcd.load.length d6, .string j.rcd.name, .int .i64 j.rcd.priority, .string j.rcd.owner, .string j.rcd.group, .int .i64 j.rcd.mode]) rfl rfl rfl q9) rfl ?_);
          (all_goals refine QS.callB (hS.mono (fun _ _ _ _ h => ⟨h.1, h.2.2⟩)) rfl (by kernel_rfl) rfl (fun h => ?_) (fun h => absurd rfl h));
          (all_goals (first | refine QS.pv (PV.all tab_ok rfl) rfl ?_ | refine QS.skip rfl ?_));
          (all_goals refine QS.pv (PV.all tab_ok rfl) rfl ?_);
          (all_goals refine QS.nil ?_))
      | refine CS.ret ?_
      | refine thenQ.ret ?_
      | refine blkQ.ret ?_
      | refine retQ.ret ?_
      | refine CS.block ?_
      | refine CS.exit ?_
      | refine thenQ.exit ?_
      | refine blkQ.normal ?_
      | refine blkQ.here ?_
      | refine blkQ.past rfl ?_
      | refine retQ.normal ?_)
    exact ⟨n - (k + 1), by omega, k + 1, rfl, hlt, rfl, rfl, rfl⟩
  · repeat' (first
      | refine CS.seq ?_
      | refine thenQ.normal ?_
      | refine CS.cond_true rfl ?_
      | refine CS.cond_false rfl ?_
      | refine CS.skip ?_
      | (refine CS.region (id := 0) ?_;
          refine RS.pv (PV.all tab_ok rfl) rfl ?_;
          refine RS.nil ?_)
      | (refine CS.region (id := 2) ?_;
          refine RS.pv (PV.all tab_ok rfl) rfl ?_;
          refine RS.nil ?_)
      | (refine CS.region (id := 4) ?_;
          refine RS.pv (PV.all tab_ok rfl) rfl ?_;
          refine RS.pv (PV.all tab_ok rfl) rfl ?_;
          (first | refine RS.pv (PV.lenS tab_ok rfl rfl) rfl ?_ | refine RS.pv (PV.lenT tab_ok rfl rfl) rfl ?_);
          (first | refine RS.pv (PV.lssT rfl rfl (by omega)) rfl ?_ | refine RS.pv (PV.lssF rfl rfl (by omega)) rfl ?_ | refine RS.ifLss rfl rfl rfl (fun h => ?_) (fun h => ?_));
          (all_goals refine RS.nil ?_))
      | (refine CS.region (id := 8) ?_;
          refine RS.pv (PV.all tab_ok rfl) rfl ?_;
          refine RS.nil ?_)
      | refine CS.ret ?_
      | refine thenQ.ret ?_
      | refine blkQ.ret ?_
      | refine retQ.ret ?_
      | refine CS.block ?_
      | refine CS.exit ?_
      | refine thenQ.exit ?_
      | refine blkQ.normal ?_
      | refine blkQ.here ?_
      | refine blkQ.past rfl ?_
      | refine retQ.normal ?_)
    exact ⟨rfl, rfl, rfl⟩
section
variable {P : Program} {n : Nat} {f : Fr} {dst : Option Nat} {ty : TypeId} {pos : String} {aft : Array Edge} {gd : Option (Nat × Bool)} {t t2 : Nat} {x y : Operand}
theorem PV.sadd {p q : ByteArray} (hx : ev n f x = .string p) (hy : ev n f y = .string q) (h : p.size + q.size ≤ 9223372036854775807) : PV P n f ⟨dst, .binOp .add t x y t2, ty, pos, aft, gd⟩ (.string (p ++ q)) := by
  unfold PV; intro w
  simp only [execOp, hx, hy, eqGuard, binOp, Op.stringOp]
  simp
  omega
end
theorem Path_s (tp k : Nat) (lv : Value) (at_ : Int) (i : Imm) (L : SH) (hl : IntSl i lv) (ha : 0 ≤ at_ ∧ at_ ≤ 100000000) (hk : L[k]? = some (tp, tapeO lv at_)) :
    FnS Try.prog 32 [.pointer (some ⟨tp, 0, none⟩)] i L fun v _ L' => ∃ s at', v = .string s ∧ at_ ≤ at' ∧ at' ≤ at_ + 4 ∧ L' = L.set k (tp, tapeO lv at') := by
  refine (FnS.tapeK (φ := fun v _ o' => ∃ s at', v = .string s ∧ at_ ≤ at' ∧ at' ≤ at_ + 4 ∧ o' = tapeO lv at') hk fun R => ?_).mono fun v i' L' _ ⟨o', ⟨s, at', h1, h2, h3, h4⟩, h5⟩ => ⟨s, at', h1, h2, h3, by rw [h5, h4]⟩
  refine FnS.intro1 Try.func32 rfl Try.ntmps32 (by simp) Try.results32 ?_
  repeat' (first
    | refine CS.seq ?_
    | refine thenQ.normal ?_
    | refine CS.cond_true rfl ?_
    | refine CS.cond_false rfl ?_
    | refine CS.skip ?_
    | (refine CS.region (id := 0) ?_;
        refine RS.pv (PV.all tab_ok rfl) rfl ?_;
        refine RS.nil ?_)
    | (refine CS.region (id := 1) ?_;
        refine RS.pv (PV.all tab_ok rfl) rfl ?_;
        refine RS.nil ?_)
    | (refine CS.region (id := 2) ?_;
        refine RS.pv (PV.all tab_ok rfl) rfl ?_;
        (refine RS.call (Next_s tp 0 lv at_ 3 _ _ (by omega) hl (by omega) rfl) rfl (by kernel_rfl) rfl ?_; rintro v i3 L3 hi3 ⟨⟨x, rfl⟩, rfl, rfl⟩; have hx := foldI_bd x (n := 3) (by omega));
        (all_goals refine RS.pv (PV.add rfl rfl (by omega)) rfl ?_);
        (all_goals refine RS.pv (PV.all tab_ok rfl) rfl ?_);
        (all_goals refine RS.nil ?_))
    | refine CS.ret ?_
    | refine thenQ.ret ?_
    | refine blkQ.ret ?_
    | refine retQ.ret ?_
    | refine CS.block ?_
    | refine CS.exit ?_
    | refine thenQ.exit ?_
    | refine blkQ.normal ?_
    | refine blkQ.here ?_
    | refine blkQ.past rfl ?_
    | refine retQ.normal ?_)
  obtain ⟨n, hn⟩ : ∃ n : Nat, 1 + foldI x 3 = n := ⟨(1 + foldI x 3).toNat, by omega⟩
  rw [hn]
  refine CS.loop [0, 3, 4] (fun m vs i' L' => ∃ (s : ByteArray) (at' : Int), m ≤ n ∧ s.size ≤ 10 * (3 - m) ∧ IntSl i' lv ∧ at_ ≤ at' ∧ at' ≤ at_ + 4 - m ∧ vs = [.pointer (some ⟨tp, 0, none⟩), .string s, .int .i64 (m : Int)] ∧ L' = (tp, tapeO lv at') :: R) n ⟨ByteArray.empty, at_ + 1, Nat.le_refl _, Nat.zero_le _, hl, by omega, by omega, rfl, rfl⟩ ?_
  rintro m g vs i' L' _ ⟨s, at', hm, hs, hl, ha1, ha2, rfl, rfl⟩
  by_cases hlt : 0 < m
  · repeat' (first
      | refine CS.seq ?_
      | refine thenQ.normal ?_
      | refine CS.cond_true rfl ?_
      | refine CS.cond_false rfl ?_
      | refine CS.skip ?_
      | (refine CS.region (id := 0) ?_;
          refine RS.pv (PV.all tab_ok rfl) rfl ?_;
          refine RS.nil ?_)
      | (refine CS.region (id := 1) ?_;
          refine RS.pv (PV.all tab_ok rfl) rfl ?_;
          refine RS.nil ?_)
      | (refine CS.region (id := 3) ?_;
          refine RS.pv (PV.all tab_ok rfl) rfl ?_;
          (first | refine RS.pv (PV.gtrT rfl rfl (by omega)) rfl ?_ | refine RS.pv (PV.gtrF rfl rfl (by omega)) rfl ?_ | refine RS.ifGtr rfl rfl rfl (fun h => ?_) (fun h => ?_));
          (all_goals refine RS.nil ?_))
      | (refine CS.region (id := 4) ?_;
          refine RS.pv (PV.all tab_ok rfl) rfl ?_;
          refine RS.pv (PV.sub rfl rfl (by omega)) rfl ?_;
          refine RS.pv (PV.all tab_ok rfl) rfl ?_;
          refine RS.nil ?_)
      | (refine CS.region (id := 5) ?_;
          refine RS.pv (PV.all tab_ok rfl) rfl ?_;
          refine RS.pv (PV.all tab_ok rfl) rfl ?_;
          (refine RS.buildStrsF tab_ok rfl rfl rfl rfl (fun bb i2 hi2 hbs => ?_); replace hl := hl.le hi2);
          (all_goals (refine RS.call (One_s tp 0 lv _ at' _ _ _ _ hl (by omega) rfl hbs rfl (by decide) (by unfold lenOk; omega)) rfl (by kernel_rfl) rfl ?_; rintro v i3 L3 hi3 ⟨⟨nm, hnm, rfl⟩, rfl, rfl⟩; have hnl : nm.size ≤ 8 := (by simp at hnm; rcases hnm with rfl | rfl | rfl | rfl | rfl | rfl | rfl <;> decide)));
          (all_goals refine RS.pv (PV.sadd rfl rfl (by show 1 + nm.size ≤ _; omega)) rfl ?_);
          (all_goals refine RS.pv (PV.sadd rfl rfl (by rw [ByteArray.size_append]; show _ + (1 + nm.size) ≤ _; omega)) rfl ?_);
          (all_goals refine RS.pv (PV.all tab_ok rfl) rfl ?_);
          (all_goals refine RS.nil ?_))
      | refine CS.ret ?_
      | refine thenQ.ret ?_
      | refine blkQ.ret ?_
      | refine retQ.ret ?_
      | refine CS.block ?_
      | refine CS.exit ?_
      | refine thenQ.exit ?_
      | refine blkQ.normal ?_
      | refine blkQ.here ?_
      | refine blkQ.past rfl ?_
      | refine retQ.normal ?_)
    exact ⟨m - 1, by omega, s ++ (⟨#[47]⟩ ++ nm), at' + 1, by omega, by rw [ByteArray.size_append, ByteArray.size_append]; show s.size + (1 + nm.size) ≤ _; omega, hl, by omega, by omega, by rw [show ((m - 1 : Nat) : Int) = (m : Int) - 1 by omega]; rfl, rfl⟩
  · repeat' (first
      | refine CS.seq ?_
      | refine thenQ.normal ?_
      | refine CS.cond_true rfl ?_
      | refine CS.cond_false rfl ?_
      | refine CS.skip ?_
      | (refine CS.region (id := 0) ?_;
          refine RS.pv (PV.all tab_ok rfl) rfl ?_;
          refine RS.nil ?_)
      | (refine CS.region (id := 1) ?_;
          refine RS.pv (PV.all tab_ok rfl) rfl ?_;
          refine RS.nil ?_)
      | (refine CS.region (id := 3) ?_;
          refine RS.pv (PV.all tab_ok rfl) rfl ?_;
          (first | refine RS.pv (PV.gtrT rfl rfl (by omega)) rfl ?_ | refine RS.pv (PV.gtrF rfl rfl (by omega)) rfl ?_ | refine RS.ifGtr rfl rfl rfl (fun h => ?_) (fun h => ?_));
          (all_goals refine RS.nil ?_))
      | (refine CS.region (id := 6) ?_;
          refine RS.pv (PV.all tab_ok rfl) rfl ?_;
          refine RS.pv (PV.all tab_ok rfl) rfl ?_;
          refine RS.nil ?_)
      | refine CS.ret ?_
      | refine thenQ.ret ?_
      | refine blkQ.ret ?_
      | refine retQ.ret ?_
      | refine CS.block ?_
      | refine CS.exit ?_
      | refine thenQ.exit ?_
      | refine blkQ.normal ?_
      | refine blkQ.here ?_
      | refine blkQ.past rfl ?_
      | refine retQ.normal ?_)
    exact ⟨_, ⟨s, at', rfl, ha1, by omega, rfl⟩, rfl⟩
end Go.Proofs.Ytmcajldlcomegaa
