/- Contracts: insertion sort of jobs. -/
import Derived.Test.YtmcajldlcomegaaW9
namespace Go.Proofs.Ytmcajldlcomegaa
open Go Go.Eng


theorem insg_s (g n cap : Nat) (l : List SJ) (sp : List Value) (i : Imm) (M : SH) (hn : l.length = n) (hb : n ≤ 1000) (hok : sjOk l) :
    FnS Try.prog 102 [.slice (some ⟨g, 0, none⟩) n cap, .int .i64 0, .int .i64 n, .func (.func 47) #[] #[]] i ((g, .cells (flat l ++ sp).toArray 41 (0, 0)) :: M) fun _ _ L' => L' = (g, .cells (flat (isort l) ++ sp).toArray 41 (0, 0)) :: M := by
  refine FnS.intro0 Try.func102 rfl Try.ntmps102 (by simp) Try.results102 ?_
  repeat' (first
    | refine CS.seq ?_
    | refine thenQ.normal ?_
    | refine CS.cond_true rfl ?_
    | refine CS.cond_false rfl ?_
    | refine CS.skip ?_
    | (refine CS.region (id := 0) ?_;
        refine RS.pv (PV.all tab_ok rfl) rfl ?_;
        refine RS.pv (PV.add rfl rfl (by omega)) rfl ?_;
        refine RS.pv (PV.all tab_ok rfl) rfl ?_;
        refine RS.nil ?_)
    | refine CS.ret ?_
    | refine thenQ.ret ?_
    | refine blkQ.ret ?_
    | refine retQ.ret ?_
    | refine CS.block ?_
    | refine CS.exit ?_
    | refine thenQ.exit ?_
    | refine blkQ.normal ?_
    | refine blkQ.here ?_
    | refine blkQ.past rfl ?_
    | refine retQ.normal ?_)
  have h1 : isort (l.take 1) ++ l.drop 1 = l := by
    cases l with
    | nil => rfl
    | cons a l => rfl
  refine CS.loop [0, 1, 2, 3, 8] (fun m vs _ L' => ∃ k : Nat, 1 ≤ k ∧ m = n - k ∧ vs = [.slice (some ⟨g, 0, none⟩) n cap, .int .i64 0, .int .i64 n, .func (.func 47) #[] #[], .int .i64 k] ∧ L' = (g, .cells (flat (isort (l.take k) ++ l.drop k) ++ sp).toArray 41 (0, 0)) :: M) (n - 1) ⟨1, Nat.le_refl _, rfl, rfl, by rw [h1]⟩ ?_
  rintro m fr vs i' L' hi ⟨k, hk1, rfl, rfl, rfl⟩
  by_cases hk : k < n
  · obtain ⟨x, hx⟩ : ∃ x, l[k]? = some x := ⟨_, List.getElem?_eq_getElem (by omega)⟩
    have hdrop : l.drop k = x :: l.drop (k + 1) := by
      obtain ⟨hlt, he⟩ := List.getElem?_eq_some_iff.1 hx
      rw [List.drop_eq_getElem_cons hlt, he]
    have htake : l.take (k + 1) = l.take k ++ [x] := by rw [List.take_add_one, hx]; rfl
    have hP : (isort (l.take k)).length = k := by rw [isort_len, List.length_take]; omega
    have hPok : sjOk (isort (l.take k)) := isort_ok fun y hy => hok y (List.mem_of_mem_take hy)
    have hnext : isort (l.take (k + 1)) = insL x (isort (l.take k)) := by rw [htake, isort_snoc]
    have hxo : sjOne x := hok x (List.mem_of_getElem? hx)
    have hro : sjOk (l.drop (k + 1)) := fun y hy => hok y (List.mem_of_mem_drop hy)
    have hrl : (l.drop (k + 1)).length = n - (k + 1) := by rw [List.length_drop, hn]
    rw [hdrop]
    have hins : isort (l.take k) ++ x :: l.drop (k + 1) = insAt x (isort (l.take k)) k ++ l.drop (k + 1) := by
      have t1 : (isort (l.take k)).take k = isort (l.take k) := List.take_of_length_le (by omega)
      have t2 : (isort (l.take k)).drop k = [] := List.drop_eq_nil_of_le (by omega)
      unfold insAt
      rw [t1, t2]
      simp
    rw [hins]
    rw [insL, hP] at hnext
    revert hP hPok hnext
    generalize isort (l.take k) = P
    intro hP hPok hnext
    revert hro hrl
    generalize hR : l.drop (k + 1) = R
    intro hro hrl
    repeat' (first
      | refine CS.seq ?_
      | refine thenQ.normal ?_
      | refine CS.cond_true rfl ?_
      | refine CS.cond_false rfl ?_
      | refine CS.skip ?_
      | (refine CS.region (id := 0) ?_;
          refine RS.pv (PV.all tab_ok rfl) rfl ?_;
          refine RS.pv (PV.add rfl rfl (by omega)) rfl ?_;
          refine RS.pv (PV.all tab_ok rfl) rfl ?_;
          refine RS.nil ?_)
      | (refine CS.region (id := 1) ?_;
          refine RS.pv (PV.all tab_ok rfl) rfl ?_;
          refine RS.pv (PV.all tab_ok rfl) rfl ?_;
          (first | refine RS.pv (PV.lssT rfl rfl (by omega)) rfl ?_ | refine RS.pv (PV.lssF rfl rfl (by omega)) rfl ?_ | refine RS.ifLss rfl rfl rfl (fun h => ?_) (fun h => ?_));
          (all_goals refine RS.nil ?_))
      | (refine CS.region (id := 3) ?_;
          refine RS.pv (PV.all tab_ok rfl) rfl ?_;
          refine RS.pv (PV.all tab_ok rfl) rfl ?_;
          refine RS.nil ?_)
      | refine CS.ret ?_
      | refine thenQ.ret ?_
      | refine blkQ.ret ?_
      | refine retQ.ret ?_
      | refine CS.block ?_
      | refine CS.exit ?_
      | refine thenQ.exit ?_
      | refine blkQ.normal ?_
      | refine blkQ.here ?_
      | refine blkQ.past rfl ?_
      | refine retQ.normal ?_)
    refine CS.loop [0, 1, 2, 3, 8, 9] (fun m vs _ L2 => m ≤ k ∧ bub x P k = bub x P m ∧ vs = [.slice (some ⟨g, 0, none⟩) n cap, .int .i64 0, .int .i64 n, .func (.func 47) #[] #[], .int .i64 k, .int .i64 m] ∧ L2 = (g, .cells (flat (insAt x P m ++ R) ++ sp).toArray 41 (0, 0)) :: M) k ⟨Nat.le_refl _, rfl, rfl, rfl⟩ ?_
    rintro m fr vs i' L' hi ⟨hm, hbub, rfl, rfl⟩
    have hDlen : (insAt x P m ++ R).length = n := by rw [List.length_append, insAt_len, hP, hrl]; omega
    have hDok : sjOk (insAt x P m ++ R) := by
      intro y hy
      rcases List.mem_append.1 hy with hy | hy
      · rcases insAt_mem hy with rfl | hy
        · exact hxo
        · exact hPok y hy
      · exact hro y hy
    cases m with
    | zero =>
      repeat' (first
        | refine CS.seq ?_
        | refine thenQ.normal ?_
        | refine CS.cond_true rfl ?_
        | refine CS.cond_false rfl ?_
        | refine CS.skip ?_
        | (refine CS.region (id := 0) ?_;
            refine RS.pv (PV.all tab_ok rfl) rfl ?_;
            refine RS.pv (PV.add rfl rfl (by omega)) rfl ?_;
            refine RS.pv (PV.all tab_ok rfl) rfl ?_;
            refine RS.nil ?_)
        | (refine CS.region (id := 2) ?_;
            refine RS.pv (PV.all tab_ok rfl) rfl ?_;
            refine RS.pv (PV.add rfl rfl (by omega)) rfl ?_;
            refine RS.pv (PV.all tab_ok rfl) rfl ?_;
            refine RS.nil ?_)
        | (refine CS.drawQ (id := 4) mix (by kernel_rfl) ?_;
            refine QS.pv (PV.all tab_ok rfl) rfl ?_;
            refine QS.pv (PV.all tab_ok rfl) rfl ?_;
            (first | refine QS.pv (PV.gtrT rfl rfl (by omega)) rfl ?_ | refine QS.pv (PV.gtrF rfl rfl (by omega)) rfl ?_ | refine QS.ifGtr rfl rfl rfl (fun h => ?_) (fun h => ?_));
            (all_goals refine QS.pv (PV.all tab_ok rfl) rfl ?_);
            (all_goals (first | refine QS.pv (PV.all tab_ok rfl) rfl ?_ | refine QS.skip rfl ?_));
            (all_goals (first | refine QS.pv (PV.all tab_ok rfl) rfl ?_ | refine QS.skip rfl ?_));
            (all_goals (first | refine QS.pv (PV.all tab_ok rfl) rfl ?_ | refine QS.skip rfl ?_));
            (all_goals (first | refine QS.pv (PV.indexAddr tab_ok rfl rfl rfl (by omega)) rfl ?_ | refine QS.pv (PV.indexAddrA tab_ok rfl rfl rfl (by omega)) rfl ?_ | refine QS.skip rfl ?_));
            (all_goals refine QS.skip rfl ?_);
            (all_goals (first | refine QS.pv (PV.all tab_ok rfl) rfl ?_ | refine QS.skip rfl ?_));
            (all_goals (first | refine QS.pv (PV.all tab_ok rfl) rfl ?_ | refine QS.skip rfl ?_));
            (all_goals (first | refine QS.pv (PV.sub rfl rfl (by omega)) rfl ?_ | refine QS.skip rfl ?_));
            (all_goals (first | refine QS.pv (PV.indexAddr tab_ok rfl rfl rfl (by omega)) rfl ?_ | refine QS.pv (PV.indexAddrA tab_ok rfl rfl rfl (by omega)) rfl ?_ | refine QS.skip rfl ?_));
            (all_goals refine QS.skip rfl ?_);
            (all_goals refine QS.skip rfl ?_);
            (all_goals (first | refine QS.pv (PV.lssT rfl rfl (by omega)) rfl ?_ | refine QS.pv (PV.lssF rfl rfl (by omega)) rfl ?_ | refine QS.ifLss rfl rfl rfl (fun h => ?_) (fun h => ?_) | refine QS.skip rfl ?_));
            (all_goals refine QS.pv (PV.all tab_ok rfl) rfl ?_);
            (all_goals refine QS.nil ?_))
        | (refine CS.region (id := 5) ?_;
            refine RS.pv (PV.all tab_ok rfl) rfl ?_;
            refine RS.pv (PV.sub rfl rfl (by omega)) rfl ?_;
            refine RS.pv (PV.all tab_ok rfl) rfl ?_;
            refine RS.nil ?_)
        | refine CS.ret ?_
        | refine thenQ.ret ?_
        | refine blkQ.ret ?_
        | refine retQ.ret ?_
        | refine CS.block ?_
        | refine CS.exit ?_
        | refine thenQ.exit ?_
        | refine blkQ.normal ?_
        | refine blkQ.here ?_
        | refine blkQ.past rfl ?_
        | refine retQ.normal ?_)
      exact ⟨n - (k + 1), by omega, k + 1, by omega, rfl, rfl, by rw [hnext, hbub, hR]; rfl⟩
    | succ j =>
      obtain ⟨y, hy⟩ : ∃ y, P[j]? = some y := ⟨_, List.getElem?_eq_getElem (by omega)⟩
      have hyo : sjOne y := hPok y (List.mem_of_getElem? hy)
      obtain ⟨s1, s2, s3⟩ := insAt_swap (x := x) R hy
      revert hDlen hDok s1 s2 s3
      generalize hD : insAt x P (j + 1) ++ R = D
      intro hDlen hDok s1 s2 s3
      obtain ⟨x1, x2, x3⟩ := x
      obtain ⟨y1, y2, y3⟩ := y
      have v1 : ∀ q u, (sjc (x1, x2, x3))[q]? = some u → (flat D ++ sp)[0 + ((j + 1 : Nat) : Int).toNat * 14 + q]? = some u := fun q u hu => flat_at sp s1 hDok q u hu
      have v2 : ∀ q u, (sjc (y1, y2, y3))[q]? = some u → (flat D ++ sp)[0 + (((j + 1 : Nat) : Int) - 1).toNat * 14 + q]? = some u := by
        intro q u hu
        have e : (((j + 1 : Nat) : Int) - 1).toNat = ((j : Nat) : Int).toNat := by omega
        rw [e]
        exact flat_at sp s2 hDok q u hu
      have lx := sjc_len hxo
      have ly := sjc_len hyo
      by_cases hlt : x2 < y2
      · have hc : cmpI x2 y2 = -1 := by unfold cmpI; rw [if_pos hlt]
        have hcall := less_s x2 y2 x1 y1 x3 y3 i' ((g, .cells (flat D ++ sp).toArray 41 (0, 0)) :: M)
        rw [hc] at hcall
        repeat' (first
          | refine CS.seq ?_
          | refine thenQ.normal ?_
          | refine CS.cond_true rfl ?_
          | refine CS.cond_false rfl ?_
          | refine CS.skip ?_
          | (refine CS.region (id := 0) ?_;
              refine RS.pv (PV.all tab_ok rfl) rfl ?_;
              refine RS.pv (PV.add rfl rfl (by omega)) rfl ?_;
              refine RS.pv (PV.all tab_ok rfl) rfl ?_;
              refine RS.nil ?_)
          | (refine CS.drawQ (id := 4) mix (by kernel_rfl) ?_;
              refine QS.pv (PV.all tab_ok rfl) rfl ?_;
              refine QS.pv (PV.all tab_ok rfl) rfl ?_;
              (first | refine QS.pv (PV.gtrT rfl rfl (by omega)) rfl ?_ | refine QS.pv (PV.gtrF rfl rfl (by omega)) rfl ?_ | refine QS.ifGtr rfl rfl rfl (fun h => ?_) (fun h => ?_));
              (all_goals refine QS.pv (PV.all tab_ok rfl) rfl ?_);
              (all_goals (first | refine QS.pv (PV.all tab_ok rfl) rfl ?_ | refine QS.skip rfl ?_));
              (all_goals (first | refine QS.pv (PV.all tab_ok rfl) rfl ?_ | refine QS.skip rfl ?_));
              (all_goals (first | refine QS.pv (PV.all tab_ok rfl) rfl ?_ | refine QS.skip rfl ?_));
              (all_goals (first | refine QS.pv (PV.indexAddr tab_ok rfl rfl rfl (by omega)) rfl ?_ | refine QS.pv (PV.indexAddrA tab_ok rfl rfl rfl (by omega)) rfl ?_ | refine QS.skip rfl ?_));
              (all_goals refine QS.lv (LV.loadL tab_ok rfl (Has.own 0 rfl) (l := sjc (x1, x2, x3)) rfl rfl lx v1) rfl ?_);
              (all_goals (first | refine QS.pv (PV.all tab_ok rfl) rfl ?_ | refine QS.skip rfl ?_));
              (all_goals (first | refine QS.pv (PV.all tab_ok rfl) rfl ?_ | refine QS.skip rfl ?_));
              (all_goals (first | refine QS.pv (PV.sub rfl rfl (by omega)) rfl ?_ | refine QS.skip rfl ?_));
              (all_goals (first | refine QS.pv (PV.indexAddr tab_ok rfl rfl rfl (by omega)) rfl ?_ | refine QS.pv (PV.indexAddrA tab_ok rfl rfl rfl (by omega)) rfl ?_ | refine QS.skip rfl ?_));
              (all_goals refine QS.lv (LV.loadL tab_ok rfl (Has.own 0 rfl) (l := sjc (y1, y2, y3)) rfl rfl ly v2) rfl ?_);
              (all_goals refine QS.callV (hcall.mono (fun _ _ _ _ h => ⟨h.1, h.2.2⟩)) rfl rfl (by kernel_rfl) rfl ?_);
              (all_goals (first | refine QS.pv (PV.lssT rfl rfl (by omega)) rfl ?_ | refine QS.pv (PV.lssF rfl rfl (by omega)) rfl ?_ | refine QS.ifLss rfl rfl rfl (fun h => ?_) (fun h => ?_) | refine QS.skip rfl ?_));
              (all_goals refine QS.pv (PV.all tab_ok rfl) rfl ?_);
              (all_goals refine QS.nil ?_))
          | (refine CS.region (id := 5) ?_;
              refine RS.pv (PV.all tab_ok rfl) rfl ?_;
              refine RS.pv (PV.sub rfl rfl (by omega)) rfl ?_;
              refine RS.pv (PV.all tab_ok rfl) rfl ?_;
              refine RS.nil ?_)
          | refine CS.ret ?_
          | refine thenQ.ret ?_
          | refine blkQ.ret ?_
          | refine retQ.ret ?_
          | refine CS.block ?_
          | refine CS.exit ?_
          | refine thenQ.exit ?_
          | refine blkQ.normal ?_
          | refine blkQ.here ?_
          | refine blkQ.past rfl ?_
          | refine retQ.normal ?_)
        have p1 := flat_put sp s1 hDok hyo
        have s2' : (D.set (j + 1) (y1, y2, y3))[j]? = some (y1, y2, y3) := by rw [List.getElem?_set, if_neg (by omega)]; exact s2
        have hDok' : sjOk (D.set (j + 1) (y1, y2, y3)) := fun z hz => by
          rcases List.mem_or_eq_of_mem_set hz with h | h
          · exact hDok z h
          · rw [h]; exact hyo
        have p2 : putAt (flat (D.set (j + 1) (y1, y2, y3)) ++ sp) (0 + (((j + 1 : Nat) : Int) - 1).toNat * 14) (sjc (x1, x2, x3)) = some (flat (insAt (x1, x2, x3) P j ++ R) ++ sp) := by
          have e : (((j + 1 : Nat) : Int) - 1).toNat = ((j : Nat) : Int).toNat := by omega
          rw [e, flat_put sp s2' hDok' hxo, s3]
        have hb1 : bub (x1, x2, x3) P (j + 1) = bub (x1, x2, x3) P j := by
          unfold bub
          rw [hy]
          show (if x2 < y2 then _ else _) = _
          rw [if_pos hlt]
          cases j <;> rfl
        refine CS.draw [0, 1, 2, 3, 4, 5, 6, 7, 8, 9, 10, 11, 12, 13, 14, 15, 16] [17] [15] [(g, .cells (flat D ++ sp).toArray 41 (0, 0)) :: M, (g, .cells (flat (D.set (j + 1) (y1, y2, y3)) ++ sp).toArray 41 (0, 0)) :: M] mix (by kernel_rfl) rfl rfl [_] rfl ?_
        refine GS.pv (PV.all tab_ok rfl) rfl rfl rfl rfl rfl rfl ?_
        refine GS.pv (PV.all tab_ok rfl) rfl rfl rfl rfl rfl rfl ?_
        refine GS.pv (PV.all tab_ok rfl) rfl rfl rfl rfl rfl rfl ?_
        refine GS.pv (PV.all tab_ok rfl) rfl rfl rfl rfl rfl rfl ?_
        refine GS.pv (PV.sub rfl rfl (by omega)) rfl rfl rfl rfl rfl rfl ?_
        refine GS.pv (PV.all tab_ok rfl) rfl rfl rfl rfl rfl rfl ?_
        refine GS.pv (PV.all tab_ok rfl) rfl rfl rfl rfl rfl rfl ?_
        refine GS.pv (PV.sub rfl rfl (by omega)) rfl rfl rfl rfl rfl rfl ?_
        refine GS.pv (PV.indexAddr tab_ok rfl rfl rfl (by omega)) rfl rfl rfl rfl rfl rfl ?_
        refine GS.lvE (fun _ _ => LV.loadL tab_ok rfl (Has.own 0 rfl) (l := sjc (y1, y2, y3)) rfl rfl ly v2) rfl rfl rfl rfl rfl rfl rfl rfl rfl ?_
        refine GS.pv (PV.all tab_ok rfl) rfl rfl rfl rfl rfl rfl ?_
        refine GS.pv (PV.all tab_ok rfl) rfl rfl rfl rfl rfl rfl ?_
        refine GS.pv (PV.indexAddr tab_ok rfl rfl rfl (by omega)) rfl rfl rfl rfl rfl rfl ?_
        refine GS.lvE (fun _ _ => LV.loadL tab_ok rfl (Has.own 0 rfl) (l := sjc (x1, x2, x3)) rfl rfl lx v1) rfl rfl rfl rfl rfl rfl rfl rfl rfl ?_
        refine GS.pv (PV.indexAddr tab_ok rfl rfl rfl (by omega)) rfl rfl rfl rfl rfl rfl ?_
        refine GS.turn0 0 rfl rfl rfl rfl rfl rfl (by decide) rfl rfl (fun i2 _ => OpS.store (k := 0) tab_ok rfl rfl rfl rfl (sjc_store hyo) p1 rfl rfl) ?_
        refine GS.pv (PV.indexAddr tab_ok rfl rfl rfl (by omega)) rfl rfl rfl rfl rfl rfl ?_
        refine GS.done rfl rfl (fun i2 hi2 => ?_)
        refine RS.store (k := 0) tab_ok rfl rfl rfl rfl rfl (sjc_store hxo) p2 rfl ?_
        refine RS.nil ?_
        repeat' (first
          | refine CS.seq ?_
          | refine thenQ.normal ?_
          | refine CS.cond_true rfl ?_
          | refine CS.cond_false rfl ?_
          | refine CS.skip ?_
          | (refine CS.region (id := 0) ?_;
              refine RS.pv (PV.all tab_ok rfl) rfl ?_;
              refine RS.pv (PV.add rfl rfl (by omega)) rfl ?_;
              refine RS.pv (PV.all tab_ok rfl) rfl ?_;
              refine RS.nil ?_)
          | (refine CS.region (id := 5) ?_;
              refine RS.pv (PV.all tab_ok rfl) rfl ?_;
              refine RS.pv (PV.sub rfl rfl (by omega)) rfl ?_;
              refine RS.pv (PV.all tab_ok rfl) rfl ?_;
              refine RS.nil ?_)
          | refine CS.ret ?_
          | refine thenQ.ret ?_
          | refine blkQ.ret ?_
          | refine retQ.ret ?_
          | refine CS.block ?_
          | refine CS.exit ?_
          | refine thenQ.exit ?_
          | refine blkQ.normal ?_
          | refine blkQ.here ?_
          | refine blkQ.past rfl ?_
          | refine retQ.normal ?_)
        exact ⟨j, by omega, by omega, by rw [hbub, hb1], congrArg (fun z : Int => [Value.slice (some ⟨g, 0, none⟩) n cap, .int .i64 0, .int .i64 n, .func (.func 47) #[] #[], .int .i64 k, .int .i64 z]) (show (((j + 1 : Nat) : Int) - 1) = (j : Int) by omega), rfl⟩
      · have hc : 0 ≤ cmpI x2 y2 := by unfold cmpI; rw [if_neg hlt]; split <;> omega
        have hcall := less_s x2 y2 x1 y1 x3 y3 i' ((g, .cells (flat D ++ sp).toArray 41 (0, 0)) :: M)
        repeat' (first
          | refine CS.seq ?_
          | refine thenQ.normal ?_
          | refine CS.cond_true rfl ?_
          | refine CS.cond_false rfl ?_
          | refine CS.skip ?_
          | (refine CS.region (id := 0) ?_;
              refine RS.pv (PV.all tab_ok rfl) rfl ?_;
              refine RS.pv (PV.add rfl rfl (by omega)) rfl ?_;
              refine RS.pv (PV.all tab_ok rfl) rfl ?_;
              refine RS.nil ?_)
          | (refine CS.region (id := 2) ?_;
              refine RS.pv (PV.all tab_ok rfl) rfl ?_;
              refine RS.pv (PV.add rfl rfl (by omega)) rfl ?_;
              refine RS.pv (PV.all tab_ok rfl) rfl ?_;
              refine RS.nil ?_)
          | (refine CS.drawQ (id := 4) mix (by kernel_rfl) ?_;
              refine QS.pv (PV.all tab_ok rfl) rfl ?_;
              refine QS.pv (PV.all tab_ok rfl) rfl ?_;
              (first | refine QS.pv (PV.gtrT rfl rfl (by omega)) rfl ?_ | refine QS.pv (PV.gtrF rfl rfl (by omega)) rfl ?_ | refine QS.ifGtr rfl rfl rfl (fun h => ?_) (fun h => ?_));
              (all_goals refine QS.pv (PV.all tab_ok rfl) rfl ?_);
              (all_goals (first | refine QS.pv (PV.all tab_ok rfl) rfl ?_ | refine QS.skip rfl ?_));
              (all_goals (first | refine QS.pv (PV.all tab_ok rfl) rfl ?_ | refine QS.skip rfl ?_));
              (all_goals (first | refine QS.pv (PV.all tab_ok rfl) rfl ?_ | refine QS.skip rfl ?_));
              (all_goals (first | refine QS.pv (PV.indexAddr tab_ok rfl rfl rfl (by omega)) rfl ?_ | refine QS.pv (PV.indexAddrA tab_ok rfl rfl rfl (by omega)) rfl ?_ | refine QS.skip rfl ?_));
              (all_goals refine QS.lv (LV.loadL tab_ok rfl (Has.own 0 rfl) (l := sjc (x1, x2, x3)) rfl rfl lx v1) rfl ?_);
              (all_goals (first | refine QS.pv (PV.all tab_ok rfl) rfl ?_ | refine QS.skip rfl ?_));
              (all_goals (first | refine QS.pv (PV.all tab_ok rfl) rfl ?_ | refine QS.skip rfl ?_));
              (all_goals (first | refine QS.pv (PV.sub rfl rfl (by omega)) rfl ?_ | refine QS.skip rfl ?_));
              (all_goals (first | refine QS.pv (PV.indexAddr tab_ok rfl rfl rfl (by omega)) rfl ?_ | refine QS.pv (PV.indexAddrA tab_ok rfl rfl rfl (by omega)) rfl ?_ | refine QS.skip rfl ?_));
              (all_goals refine QS.lv (LV.loadL tab_ok rfl (Has.own 0 rfl) (l := sjc (y1, y2, y3)) rfl rfl ly v2) rfl ?_);
              (all_goals refine QS.callV (hcall.mono (fun _ _ _ _ h => ⟨h.1, h.2.2⟩)) rfl rfl (by kernel_rfl) rfl ?_);
              (all_goals (first | refine QS.pv (PV.lssT rfl rfl (by omega)) rfl ?_ | refine QS.pv (PV.lssF rfl rfl (by omega)) rfl ?_ | refine QS.ifLss rfl rfl rfl (fun h => ?_) (fun h => ?_) | refine QS.skip rfl ?_));
              (all_goals refine QS.pv (PV.all tab_ok rfl) rfl ?_);
              (all_goals refine QS.nil ?_))
          | (refine CS.region (id := 5) ?_;
              refine RS.pv (PV.all tab_ok rfl) rfl ?_;
              refine RS.pv (PV.sub rfl rfl (by omega)) rfl ?_;
              refine RS.pv (PV.all tab_ok rfl) rfl ?_;
              refine RS.nil ?_)
          | refine CS.ret ?_
          | refine thenQ.ret ?_
          | refine blkQ.ret ?_
          | refine retQ.ret ?_
          | refine CS.block ?_
          | refine CS.exit ?_
          | refine thenQ.exit ?_
          | refine blkQ.normal ?_
          | refine blkQ.here ?_
          | refine blkQ.past rfl ?_
          | refine retQ.normal ?_)
        have hb1 : bub (x1, x2, x3) P (j + 1) = j + 1 := by
          unfold bub
          rw [hy]
          show (if x2 < y2 then _ else _) = _
          rw [if_neg hlt]
        exact ⟨n - (k + 1), by omega, k + 1, by omega, rfl, rfl, by rw [hnext, hbub, hb1, hR, hD]⟩
  · have e1 : l.take k = l := List.take_of_length_le (by omega)
    have e2 : l.drop k = [] := List.drop_eq_nil_of_le (by omega)
    rw [e1, e2, List.append_nil]
    repeat' (first
      | refine CS.seq ?_
      | refine thenQ.normal ?_
      | refine CS.cond_true rfl ?_
      | refine CS.cond_false rfl ?_
      | refine CS.skip ?_
      | (refine CS.region (id := 0) ?_;
          refine RS.pv (PV.all tab_ok rfl) rfl ?_;
          refine RS.pv (PV.add rfl rfl (by omega)) rfl ?_;
          refine RS.pv (PV.all tab_ok rfl) rfl ?_;
          refine RS.nil ?_)
      | (refine CS.region (id := 1) ?_;
          refine RS.pv (PV.all tab_ok rfl) rfl ?_;
          refine RS.pv (PV.all tab_ok rfl) rfl ?_;
          (first | refine RS.pv (PV.lssT rfl rfl (by omega)) rfl ?_ | refine RS.pv (PV.lssF rfl rfl (by omega)) rfl ?_ | refine RS.ifLss rfl rfl rfl (fun h => ?_) (fun h => ?_));
          (all_goals refine RS.nil ?_))
      | refine CS.ret ?_
      | refine thenQ.ret ?_
      | refine blkQ.ret ?_
      | refine retQ.ret ?_
      | refine CS.block ?_
      | refine CS.exit ?_
      | refine thenQ.exit ?_
      | refine blkQ.normal ?_
      | refine blkQ.here ?_
      | refine blkQ.past rfl ?_
      | refine retQ.normal ?_)
    rfl

theorem stabg_s (g n cap : Nat) (l : List SJ) (sp : List Value) (i : Imm) (M : SH) (hn : l.length = n) (hb : n < 20) (hok : sjOk l) :
    FnS Try.prog 86 [.slice (some ⟨g, 0, none⟩) n cap, .int .i64 n, .func (.func 47) #[] #[]] i ((g, .cells (flat l ++ sp).toArray 41 (0, 0)) :: M) fun _ _ L' => L' = (g, .cells (flat (isort l) ++ sp).toArray 41 (0, 0)) :: M := by
  refine FnS.intro0 Try.func86 rfl Try.ntmps86 (by simp) Try.results86 ?_
  repeat' (first
    | refine CS.seq ?_
    | refine thenQ.normal ?_
    | refine CS.cond_true rfl ?_
    | refine CS.cond_false rfl ?_
    | refine CS.skip ?_
    | (refine CS.region (id := 0) ?_;
        refine RS.pv (PV.all tab_ok rfl) rfl ?_;
        refine RS.nil ?_)
    | (refine CS.region (id := 1) ?_;
        refine RS.pv (PV.all tab_ok rfl) rfl ?_;
        refine RS.pv (PV.all tab_ok rfl) rfl ?_;
        refine RS.pv (PV.all tab_ok rfl) rfl ?_;
        refine RS.nil ?_)
    | refine CS.ret ?_
    | refine thenQ.ret ?_
    | refine blkQ.ret ?_
    | refine retQ.ret ?_
    | refine CS.block ?_
    | refine CS.exit ?_
    | refine thenQ.exit ?_
    | refine blkQ.normal ?_
    | refine blkQ.here ?_
    | refine blkQ.past rfl ?_
    | refine retQ.normal ?_)
  refine CS.loop [0, 1, 2, 6, 7, 8] (fun _ vs _ L' => vs = [.slice (some ⟨g, 0, none⟩) n cap, .int .i64 n, .func (.func 47) #[] #[], .int .i64 20, .int .i64 0, .int .i64 20] ∧ L' = (g, .cells (flat l ++ sp).toArray 41 (0, 0)) :: M) 0 ⟨rfl, rfl⟩ ?_
  rintro m fr vs i' L' hi ⟨rfl, rfl⟩
  repeat' (first
    | refine CS.seq ?_
    | refine thenQ.normal ?_
    | refine CS.cond_true rfl ?_
    | refine CS.cond_false rfl ?_
    | refine CS.skip ?_
    | (refine CS.region (id := 0) ?_;
        refine RS.pv (PV.all tab_ok rfl) rfl ?_;
        refine RS.nil ?_)
    | (refine CS.region (id := 1) ?_;
        refine RS.pv (PV.all tab_ok rfl) rfl ?_;
        refine RS.pv (PV.all tab_ok rfl) rfl ?_;
        refine RS.pv (PV.all tab_ok rfl) rfl ?_;
        refine RS.nil ?_)
    | (refine CS.region (id := 2) ?_;
        refine RS.pv (PV.all tab_ok rfl) rfl ?_;
        refine RS.pv (PV.all tab_ok rfl) rfl ?_;
        (first | refine RS.pv (PV.leqT rfl rfl (by omega)) rfl ?_ | refine RS.pv (PV.leqF rfl rfl (by omega)) rfl ?_ | refine RS.ifLeq rfl rfl rfl (fun h => ?_) (fun h => ?_));
        (all_goals refine RS.nil ?_))
    | (refine CS.region (id := 6) ?_;
        refine RS.pv (PV.all tab_ok rfl) rfl ?_;
        refine RS.pv (PV.all tab_ok rfl) rfl ?_;
        refine RS.pv (PV.all tab_ok rfl) rfl ?_;
        refine RS.pv (PV.all tab_ok rfl) rfl ?_;
        (refine RS.call (insg_s g n cap l sp _ M hn (by omega) hok) rfl (by kernel_rfl) rfl ?_; rintro v2 i2 L2 hi2 rfl);
        (all_goals refine RS.nil ?_))
    | refine CS.ret ?_
    | refine thenQ.ret ?_
    | refine blkQ.ret ?_
    | refine retQ.ret ?_
    | refine CS.block ?_
    | refine CS.exit ?_
    | refine thenQ.exit ?_
    | refine blkQ.normal ?_
    | refine blkQ.here ?_
    | refine blkQ.past rfl ?_
    | refine retQ.normal ?_)
  refine CS.loop [1, 6] (fun _ vs _ L' => vs = [.int .i64 n, .int .i64 20] ∧ L' = (g, .cells (flat (isort l) ++ sp).toArray 41 (0, 0)) :: M) 0 ⟨rfl, rfl⟩ ?_
  rintro m fr2 vs i3 L' hi ⟨rfl, rfl⟩
  repeat' (first
    | refine CS.seq ?_
    | refine thenQ.normal ?_
    | refine CS.cond_true rfl ?_
    | refine CS.cond_false rfl ?_
    | refine CS.skip ?_
    | (refine CS.region (id := 0) ?_;
        refine RS.pv (PV.all tab_ok rfl) rfl ?_;
        refine RS.nil ?_)
    | (refine CS.region (id := 1) ?_;
        refine RS.pv (PV.all tab_ok rfl) rfl ?_;
        refine RS.pv (PV.all tab_ok rfl) rfl ?_;
        refine RS.pv (PV.all tab_ok rfl) rfl ?_;
        refine RS.nil ?_)
    | (refine CS.region (id := 7) ?_;
        refine RS.pv (PV.all tab_ok rfl) rfl ?_;
        refine RS.pv (PV.all tab_ok rfl) rfl ?_;
        (first | refine RS.pv (PV.lssT rfl rfl (by omega)) rfl ?_ | refine RS.pv (PV.lssF rfl rfl (by omega)) rfl ?_ | refine RS.ifLss rfl rfl rfl (fun h => ?_) (fun h => ?_));
        (all_goals refine RS.nil ?_))
    | refine CS.ret ?_
    | refine thenQ.ret ?_
    | refine blkQ.ret ?_
    | refine retQ.ret ?_
    | refine CS.block ?_
    | refine CS.exit ?_
    | refine thenQ.exit ?_
    | refine blkQ.normal ?_
    | refine blkQ.here ?_
    | refine blkQ.past rfl ?_
    | refine retQ.normal ?_)
  rfl
theorem sortg_s (g n cap : Nat) (l : List SJ) (sp : List Value) (i : Imm) (M : SH) (hn : l.length = n) (hb : n < 20) (hok : sjOk l) :
    FnS Try.prog 46 [.slice (some ⟨g, 0, none⟩) n cap, .func (.func 47) #[] #[]] i ((g, .cells (flat l ++ sp).toArray 41 (0, 0)) :: M) fun _ _ L' => L' = (g, .cells (flat (isort l) ++ sp).toArray 41 (0, 0)) :: M := by
  refine FnS.intro0 Try.func46 rfl Try.ntmps46 (by simp) Try.results46 ?_
  repeat' (first
    | refine CS.seq ?_
    | refine thenQ.normal ?_
    | refine CS.cond_true rfl ?_
    | refine CS.cond_false rfl ?_
    | refine CS.skip ?_
    | (refine CS.region (id := 0) ?_;
        refine RS.pv (PV.all tab_ok rfl) rfl ?_;
        refine RS.pv (PV.all tab_ok rfl) rfl ?_;
        (first | refine RS.pv (PV.lenS tab_ok rfl rfl) rfl ?_ | refine RS.pv (PV.lenT tab_ok rfl rfl) rfl ?_);
        refine RS.pv (PV.all tab_ok rfl) rfl ?_;
        (refine RS.call (stabg_s g n cap l sp _ M hn hb hok) rfl (by kernel_rfl) rfl ?_; rintro v2 i2 L2 hi2 rfl);
        (all_goals refine RS.nil ?_))
    | refine CS.ret ?_
    | refine thenQ.ret ?_
    | refine blkQ.ret ?_
    | refine retQ.ret ?_
    | refine CS.block ?_
    | refine CS.exit ?_
    | refine thenQ.exit ?_
    | refine blkQ.normal ?_
    | refine blkQ.here ?_
    | refine blkQ.past rfl ?_
    | refine retQ.normal ?_)
  rfl
end Go.Proofs.Ytmcajldlcomegaa
