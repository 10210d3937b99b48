/- What UpgradeChanges leans on. No condition. -/
import Derived.Test.YtckdkhhpjnefpaaGreatDoorP5
import Derived.Shelf.Strings.OnBuilder
import Derived.Shelf.LaysM
import Derived.Ground.GgsProg
import Derived.Shelf.GgSortFunc.Tiny
import Derived.Ground.Names2Prog
import Derived.Ground.SlgnProg
import Derived.Test.YtckdkhhpjnefpaaGreatDoorProg
import Derived.ProofKit
import Derived.WalkKit
import Derived.OpenShut
import Derived.ChangeOld
import Derived.Below
import Derived.LaidMore
import Derived.Lay
import Derived.HandedShaped
import Derived.Stop.Joined
import Derived.Shelf.Vars
import Derived.Lib.LaidU8
import Derived.Lib.LaidTab
import Derived.JoinedOf
set_option linter.unusedVariables false
set_option linter.unusedSectionVars false
set_option linter.unusedSimpArgs false
namespace Go.Eng
open Go
theorem FnS.introTTCC {P : Program} {T : Tab} (hT : T.ok P) {g : FuncId} {fn : Func} {c : Code} {args : List Value} {i : Imm} {L : SH} {Post : Value → Imm → SH → Prop} {n a t r s u : Nat}
 (hf : P.funcs[g]? = some fn) (hb : fn.body = some c) (hn : fn.ntmps = n) (hl : args.length ≤ n) (hres : fn.results = #[.tmp r, .tmp s, .cell a t, .cell u t])
 (h : CS P n c (argF 0 args) i L (retQ fun f i' L' => ∃ b1 cs1 t1 fz1 v1 b2 cs2 t2 fz2 v2, ev n f (.tmp a) = .pointer (some ⟨b1, 0, none⟩) ∧ Has i' L' b1 (.cells (List.toArray cs1) t1 fz1) ∧ ldV T t 0 cs1 = some v1 ∧ ev n f (.tmp u) = .pointer (some ⟨b2, 0, none⟩) ∧ Has i' L' b2 (.cells (List.toArray cs2) t2 fz2) ∧ ldV T t 0 cs2 = some v2 ∧ Post (.tuple #[ev n f (.tmp r), ev n f (.tmp s), v1, v2]) i' L')) : FnS P g args i L Post :=
 FnS.body hf hb hn hl _ (fun f i' L' w hs ⟨b1, cs1, t1, fz1, v1, b2, cs2, t2, fz2, v2, h1, h2, h3, k1, k2, k3, h4⟩ => by
  have h5 := run_ldV hT (h2.block hs) h3
  have h6 : (loadVar t ⟨b1, 0, none⟩).run P w = .ok v1 w := by simpa [Instr.loadAt, Instr.sureAddr] using h5
  have k5 := run_ldV hT (k2.block hs) k3
  have k6 : (loadVar t ⟨b2, 0, none⟩).run P w = .ok v2 w := by simpa [Instr.loadAt, Instr.sureAddr] using k5
  refine ⟨_, ?_, h4⟩
  simp only [results, hres]
  have h8 : (ofF n f).tmps[a]?.getD undef = .pointer (some ⟨b1, 0, none⟩) := by rw [evt]; exact h1
  have k8 : (ofF n f).tmps[u]?.getD undef = .pointer (some ⟨b2, 0, none⟩) := by rw [evt]; exact k1
  have h9 := evt n f r
  have h10 := evt n f s
  simp [h8, k8, asAddr, h6, k6, h9, h10]) h
end Go.Eng
namespace Go.Proofs.YtckdkhhpjnefpaaGreatDoor
set_option maxHeartbeats 4000000
open Go Go.Eng
theorem perm_of_sum {α : Type} : ∀ (l1 l2 : List α), (∀ f : α → Nat, (l1.map f).sum = (l2.map f).sum) → l1.Perm l2
 | [], l2, h => by
   cases l2 with
   | nil => exact .nil
   | cons a l => have := h (fun _ => 1); simp at this; omega
 | a :: l, l2, h => by
   classical
   have hm : a ∈ l2 := by
    apply Decidable.byContradiction
    intro hn
    have h1 := h (fun x => if x = a then 1 else 0)
    have h2 : (l2.map (fun x => if x = a then 1 else 0)).sum = 0 := by
     rw [List.sum_eq_zero_iff_forall_eq_nat]
     intro x hx
     obtain ⟨y, hy, rfl⟩ := List.mem_map.1 hx
     have hya : y ≠ a := fun e => hn (e ▸ hy)
     simp [hya]
    rw [h2] at h1
    simp at h1
   obtain ⟨A, B, rfl⟩ := List.append_of_mem hm
   refine (List.Perm.cons a (perm_of_sum l (A ++ B) fun f => ?_)).trans List.perm_middle.symm
   have := h f
   simp at this ⊢
   omega
theorem fils_set : ∀ (fs : List Fil) (j : Nat) (f : Fil) (tx : ByteArray), fs[j]? = some f → fils (fs.set j ⟨f.name, tx⟩) = (fils fs).set (j * 2 + 1) (.string tx)
 | [], j, f, tx, h => by simp at h
 | a :: l, 0, f, tx, h => by
   simp at h; subst h
   rfl
 | a :: l, j + 1, f, tx, h => by
   have ih := fils_set l j f tx (by simpa using h)
   show filC a ++ fils (l.set j ⟨f.name, tx⟩) = (filC a ++ fils l).set ((j + 1) * 2 + 1) (.string tx)
   rw [ih, show (j + 1) * 2 + 1 = (j * 2 + 1) + 1 + 1 by omega]
   rfl
theorem rules_t (tp : Nat) (lv : Value) (a : Int) (i : Imm) (L : SH) (hg : Glb i) (hl : IntSl i lv) (ha : 0 ≤ a ∧ a ≤ 400000000000) :
 FnS Tryz.prog 6 [.pointer (some ⟨tp, 0, none⟩)] i ((tp, tapeO lv a) :: L) fun v i' L' => (∃ (ra rb : Value) (ls lu : List Value), v = .tuple #[ra, rb, .agg ls.toArray, .agg lu.toArray] ∧ RulesN i' 512 ra ∧ RulesN i' 512 rb ∧ SetI i' ls ∧ SetI i' lu) ∧ ∃ a', L' = (tp, tapeO lv a') :: L := by
 refine FnS.state (K := fun v i' L' => ∃ (p q r : Nat × Obj) (a' : Int), (∃ (ra rb : Value) (ls lu : List Value), v = .tuple #[ra, rb, .agg ls.toArray, .agg lu.toArray] ∧ RulesN i' 512 ra ∧ RulesN i' 512 rb ∧ SetI i' ls ∧ SetI i' lu) ∧ L' = p :: (tp, tapeO lv a') :: q :: r :: L) ?_ ?_
 rotate_left
 · rintro v i' L' w _ hs ⟨p, q, r, a', h1, rfl⟩
   exact ⟨i', _, Imm.le.refl i', St.dropMid (A := [(tp, tapeO lv a')]) (G := [q, r]) hs.drop, h1, a', rfl⟩
 refine FnS.introTTCC tab_ok Tryz.func6 rfl Tryz.ntmps6 (by simp) Tryz.results6 ?_
 repeat' (first | refine CS.seq ?_ | refine thenQ.normal ?_ | (refine CS.region (id := 0) ?_; refine RS.pv (PV.all tab_ok rfl) rfl ?_; refine RS.pv (PV.all tab_ok rfl) rfl ?_; refine RS.alloc tab_ok rfl rfl (fun r4 => ?_); (all_goals refine RS.alloc tab_ok rfl rfl (fun r5 => ?_)); (all_goals refine RS.nil ?_)))
 refine CS.region (id := 1) ?_
 refine RS.pv (PV.all tab_ok rfl) rfl ?_
 refine RS.perm (List.perm_append_comm_assoc [_, _] [_] L) ?_
 refine RS.call (Setup_t tp lv a _ _ hg hl (by omega)) rfl (by kernel_rfl) rfl ?_
 rintro _ i _ hi ⟨⟨l, rfl, hset⟩, a1, ha1, ha2, rfl⟩
 replace hg := hg.le hi
 replace hl := hl.le hi
 obtain ⟨d, h, m, b, o, k, e, p, lim, rfl, hd, hh, hm, hb, ho, hk, he, hp⟩ := id hset
 obtain ⟨nd, vd, ⟨ad, cd, rfl, hdl, hdc⟩, hnd, hdv⟩ := hd
 obtain ⟨nh, vh, ⟨ah, ch, rfl, hhc⟩, hnh, hhv⟩ := hh
 obtain ⟨nm, vm, ⟨am, cm, rfl, hmc⟩, hnm, hmv⟩ := hm
 obtain ⟨ab, nb, cb, rfl, hb⟩ := hb
 obtain ⟨ao, no, co, rfl, ho⟩ := ho
 obtain ⟨ak, nk, ck, rfl, hk⟩ := hk
 obtain ⟨ae, ne, ce, rfl, he⟩ := he
 obtain ⟨sp, ⟨ap, cp, rfl, hpc⟩, hnp, hpv⟩ := hp
 refine RS.alloc tab_ok rfl rfl (fun bs => ?_)
 (refine RS.store (k := 0) tab_ok rfl rfl rfl rfl rfl rfl rfl rfl ?_)
 refine RS.freeze (fun i2 hi2 gs => ?_)
 refine RS.nil ?_
 refine thenQ.normal ?_
 replace hg := hg.le hi2
 replace hl := hl.le hi2
 replace hset := hset.le hi2
 have hz : 0 ≤ a1 ∧ a1 ≤ 450000000000 := by omega
 clear hdc hdv hhc hhv hmc hmv hpc hpv ha1 ha2
 repeat' (first | refine CS.seq ?_ | refine thenQ.normal ?_ | (refine CS.region (id := 2) ?_; ((refine RS.lv (LV.load tab_ok rfl (Has.imm gs) rfl) rfl ?_)); (all_goals refine RS.alloc tab_ok rfl rfl (fun bu => ?_)); (all_goals (refine RS.store (k := 0) tab_ok rfl rfl rfl rfl rfl rfl rfl rfl ?_)); (all_goals refine RS.nil ?_)) | (refine CS.region (id := 3) ?_; refine RS.pv (PV.all tab_ok rfl) rfl ?_; (refine RS.store (k := 0) tab_ok rfl rfl rfl rfl rfl rfl rfl rfl ?_); refine RS.nil ?_) | (refine CS.region (id := 4) ?_; refine RS.pv (PV.all tab_ok rfl) rfl ?_; refine RS.nil ?_) | refine CS.block ?_)
 refine CS.loop [0, 4, 5, 6, 7, 8] (fun m vs' i' L9 => ∃ (q cu : Nat) (au : Option Addr) (vs : List Value) (Oo R : SH), m = nd - q ∧ q ≤ nd ∧ vs' = [.pointer (some ⟨tp, 0, none⟩), .pointer (some ⟨r4, 0, none⟩), .pointer (some ⟨r5, 0, none⟩), .pointer (some ⟨bs, 0, none⟩), .pointer (some ⟨bu, 0, none⟩), .int .i64 (q : Int)] ∧ SlO 60 (.slice au q cu) 1 q vs Oo ∧ OLs vs R ∧ Glb i' ∧ IntSl i' lv ∧ SetI i' [.slice ad nd cd, .slice ah nh ch, .slice am nm cm, .slice ab nb cb, .slice ao no co, .slice ak nk ck, .slice ae ne ce, .slice ap sp.length cp, .int .i64 lim] ∧ i'.blk bs = some (.cells (List.toArray [.slice ad nd cd, .slice ah nh ch, .slice am nm cm, .slice ab nb cb, .slice ao no co, .slice ak nk ck, .slice ae ne ce, .slice ap sp.length cp, .int .i64 lim]) 35 (0, 0)) ∧ L9 = (bu, setO (.slice au q cu) (.slice ah nh ch) (.slice am nm cm) (.slice ab nb cb) (.slice ao no co) (.slice ak nk ck) (.slice ae ne ce) (.slice ap sp.length cp) (.int .i64 lim)) :: (tp, tapeO lv a1) :: (r5, setO nilV nilV nilV nilV nilV nilV nilV nilV (.int .i64 0)) :: (r4, setO nilV nilV nilV nilV nilV nilV nilV nilV (.int .i64 0)) :: (Oo ++ (R ++ L))) _ ⟨0, _, _, [], [], [], rfl, Nat.zero_le _, rfl, SlO.nil _ _, rfl, hg, hl, hset, gs, rfl⟩ ?_
 clear hg hl hset gs
 rintro m g vs' i _ hi ⟨q, cu, au, vs, Oo, R, rfl, hq, rfl, hO, hR, hg, hl, hset, gs, rfl⟩
 by_cases hlt : q < nd
 · obtain ⟨d9, h9, m9, b9, o9, k9, e9, p9, lim9, hse, ⟨nd', vd', hds, hnd', hdv⟩, -⟩ := id hset
   cases hse
   obtain ⟨_, _, e0, _⟩ := id hds
   cases e0
   obtain ⟨d2, hd2⟩ : ∃ d2, vd'[q]? = some d2 := by
    obtain ⟨_, _, _, hl9, _⟩ := hds
    exact ⟨_, List.getElem?_eq_getElem (by omega)⟩
   obtain ⟨fs, hfs, hfo, hfc⟩ := hdv d2 (List.mem_of_getElem? hd2)
   obtain ⟨aod, capd, rfl, _⟩ := id hfs
   obtain ⟨-, b1, o1, c1, t1, z1, p1, e1, g1, q1⟩ := Sl.at1 hds hd2
   cases e1
   have hf3 := hfo.1
   repeat' (first | refine RS.pv (PV.all tab_ok rfl) rfl ?_ | refine CS.seq ?_ | refine thenQ.normal ?_ | refine CS.cond_true rfl ?_ | refine CS.skip ?_ | refine CS.block ?_ | refine CS.region (id := 5) ?_ | refine RS.lv (LV.load tab_ok rfl (Has.imm gs) rfl) rfl ?_ | refine RS.pv (PV.lenS tab_ok rfl rfl) rfl ?_ | refine RS.pv (PV.lssT rfl rfl (by omega)) rfl ?_ | refine RS.nil ?_)
   refine CS.drawM mix [0,1,2,3,4,5,6,7,8,9] [10,11] [7,8,9] (fun L9 => ∃ X, L9 = (bu, setO (.slice au q cu) (.slice ah nh ch) (.slice am nm cm) (.slice ab nb cb) (.slice ao no co) (.slice ak nk ck) (.slice ae ne ce) (.slice ap sp.length cp) (.int .i64 lim)) :: X) (stE fun L9 => L9 = (bu, setO (.slice au q cu) (.slice ah nh ch) (.slice am nm cm) (.slice ab nb cb) (.slice ao no co) (.slice ak nk ck) (.slice ae ne ce) (.slice ap sp.length cp) (.int .i64 lim)) :: (tp, tapeO lv a1) :: (r5, setO nilV nilV nilV nilV nilV nilV nilV nilV (.int .i64 0)) :: (r4, setO nilV nilV nilV nilV nilV nilV nilV nilV (.int .i64 0)) :: (Oo ++ (R ++ L))) (by kernel_rfl) (by decide) rfl ⟨_, rfl⟩ (stE_mono _) rfl ?_
   refine GM.pv (PV.all tab_ok rfl) rfl rfl rfl rfl rfl rfl ?_
   refine GM.lv (fun i' hi L' hL => by obtain ⟨X, rfl⟩ := hL; exact LV.load tab_ok rfl (Has.own 0 rfl) rfl) rfl rfl rfl rfl rfl rfl ?_
   refine GM.pv (PV.all tab_ok rfl) rfl rfl rfl rfl rfl rfl ?_
   refine GM.lv (fun i' hi L' hL => LV.load tab_ok rfl (Has.imm (hi.blk _ _ gs)) rfl) rfl rfl rfl rfl rfl rfl ?_
   refine GM.pv (PV.all tab_ok rfl) rfl rfl rfl rfl rfl rfl ?_
   (refine GM.pv (PV.indexAddr tab_ok rfl rfl rfl (by omega)) rfl rfl rfl rfl rfl rfl ?_)
   refine GM.lv (fun i' hi L' hL => LV.load1 tab_ok rfl (Has.imm (hi.blk _ _ g1)) rfl q1) rfl rfl rfl rfl rfl rfl ?_
   refine GM.turn (fun _ _ => True) ⟨[35], fun _ vs9 L9 => ∃ (a7 : Option Addr) (c7 : Nat) (O7 : SH), vs9 = [.slice a7 fs.length c7] ∧ DirO (.slice a7 fs.length c7) fs O7 ∧ L9 = (bu, setO (.slice au q cu) (.slice ah nh ch) (.slice am nm cm) (.slice ab nb cb) (.slice ao no co) (.slice ak nk ck) (.slice ae ne ce) (.slice ap sp.length cp) (.int .i64 lim)) :: (O7 ++ ((tp, tapeO lv a1) :: (r5, setO nilV nilV nilV nilV nilV nilV nilV nilV (.int .i64 0)) :: (r4, setO nilV nilV nilV nilV nilV nilV nilV nilV (.int .i64 0)) :: (Oo ++ (R ++ L))))⟩ (fun _ _ _ _ _ => trivial) (fun _ _ _ _ _ h => h) rfl rfl rfl rfl rfl rfl (fun i' hi L' _ vs9 _ hm => ?_) ?_
   · subst hm
     refine fun _ => ⟨rfl, ?_⟩
     refine OpS.mono (OpS.appC (O := []) [(bu, setO (.slice au q cu) (.slice ah nh ch) (.slice am nm cm) (.slice ab nb cb) (.slice ao no co) (.slice ak nk ck) (.slice ae ne ce) (.slice ap sp.length cp) (.int .i64 lim))] tab_ok (sz := 2) (bytes := 32) (k := 0) (m := fs.length) rfl rfl (SlO.nil 64 2) ((hfs.le hi).rd _) ⟨_, rfl, rfl⟩ ⟨_, rfl, rfl, rfl⟩ (by omega) (fils_one fs) (by omega) (by omega)) ?_
     rintro v' i3 L3 _ ⟨O7, ⟨a7, c7, rfl, h1⟩, rfl⟩
     exact ⟨⟨_, rfl⟩, trivial, a7, c7, O7, by simp, ⟨by simpa using h1, hfo⟩, rfl⟩
   refine GM.turn (fun _ _ => True) ⟨[36], fun i' vs9 L9 => ∃ (b8 : Nat) (a7 : Option Addr) (c7 : Nat) (O7 : SH), vs9 = [.slice (some ⟨b8, 0, none⟩) 1 1] ∧ Sl i' (.slice (some ⟨b8, 0, none⟩) 1 1) 1 1 [.slice a7 fs.length c7] ∧ DirO (.slice a7 fs.length c7) fs O7 ∧ L9 = (bu, setO (.slice au q cu) (.slice ah nh ch) (.slice am nm cm) (.slice ab nb cb) (.slice ao no co) (.slice ak nk ck) (.slice ae ne ce) (.slice ap sp.length cp) (.int .i64 lim)) :: (O7 ++ ((tp, tapeO lv a1) :: (r5, setO nilV nilV nilV nilV nilV nilV nilV nilV (.int .i64 0)) :: (r4, setO nilV nilV nilV nilV nilV nilV nilV nilV (.int .i64 0)) :: (Oo ++ (R ++ L))))⟩ (fun _ _ _ _ _ => trivial) (fun _ _ hi _ _ ⟨b, a, c, d, h1, h2, h3⟩ => ⟨b, a, c, d, h1, h2.le hi, h3⟩) rfl rfl rfl rfl rfl rfl (fun i' hi L' _ vs9 _ hm => ?_) ?_
   · obtain ⟨a7, c7, O7, rfl, hD7, rfl⟩ := hm
     rintro w - hw
     have hwv : w = .slice a7 fs.length c7 := hw 0 _ _ rfl rfl rfl
     subst hwv
     refine ⟨rfl, OpS.mono (OpS.buildSliceF tab_ok (sz := 1) (cs := [.slice a7 fs.length c7]) (bsl_one rfl rfl rfl rfl (by decide) (by decide) rfl) rfl) ?_⟩
     rintro v' i3 L3 _ ⟨rfl, b8, rfl, h8⟩
     exact ⟨⟨_, rfl⟩, trivial, b8, a7, c7, O7, rfl, h8, hD7, rfl⟩
   refine GM.turn (fun _ _ => True) ⟨[37], fun _ vs9 L9 => ∃ (a9 : Option Addr) (c9 : Nat) (v7 : Value) (O7 O9 : SH), vs9 = [.slice a9 (q + 1) c9] ∧ SlO 60 (.slice a9 (q + 1) c9) 1 (q + 1) (vs ++ [v7]) O9 ∧ DirO v7 fs O7 ∧ L9 = (bu, setO (.slice au q cu) (.slice ah nh ch) (.slice am nm cm) (.slice ab nb cb) (.slice ao no co) (.slice ak nk ck) (.slice ae ne ce) (.slice ap sp.length cp) (.int .i64 lim)) :: (tp, tapeO lv a1) :: (r5, setO nilV nilV nilV nilV nilV nilV nilV nilV (.int .i64 0)) :: (r4, setO nilV nilV nilV nilV nilV nilV nilV nilV (.int .i64 0)) :: (O7 ++ (O9 ++ (R ++ L)))⟩ (fun _ _ _ _ _ => trivial) (fun _ _ _ _ _ h => h) rfl rfl rfl rfl rfl rfl (fun i' hi L' _ vs9 _ hm => ?_) ?_
   · obtain ⟨b8, a7, c7, O7, rfl, h8, hD7, rfl⟩ := hm
     rintro w - hw
     have hwv : w = .slice (some ⟨b8, 0, none⟩) 1 1 := hw 0 _ _ rfl rfl rfl
     subst hwv
     refine ⟨rfl, OpS.perm (List.Perm.cons _ (List.perm_append_comm_assoc O7 [_, _, _] _)) ?_⟩
     refine OpS.mono (OpS.appC (_ :: _ :: _ :: _ :: O7) tab_ok (sz := 1) (bytes := 24) (m := 1) rfl rfl hO (h8.rd _) ⟨_, rfl, rfl⟩ ⟨_, rfl, rfl, rfl⟩ (by omega) (allOne rfl) (by omega) (by omega)) ?_
     rintro v' i3 L3 _ ⟨O9, ⟨a9, c9, rfl, h1⟩, rfl⟩
     exact ⟨⟨_, rfl⟩, trivial, a9, c9, _, O7, O9, rfl, h1, hD7, rfl⟩
   refine GM.done rfl rfl (fun i2 L2 vs9 hi2 _ _ hm => ?_)
   obtain ⟨a9, c9, v7, O7, O9, rfl, hO9, hD7, rfl⟩ := hm
   rintro w - w1 - w2 - hw
   have hwv : w = .slice a9 (q + 1) c9 := hw 0 _ _ rfl rfl
   subst hwv
   refine RS.pv (PV.all tab_ok rfl) rfl ?_
   (refine RS.store (k := 0) tab_ok rfl rfl rfl rfl rfl rfl rfl rfl ?_)
   refine RS.perm (List.Perm.cons _ (List.Perm.cons _ (List.Perm.cons _ (permD O7 O9 R L _)))) ?_
   refine RS.nil ?_
   repeat' (first | refine RS.pv (PV.all tab_ok rfl) rfl ?_ | refine thenQ.normal ?_ | refine blkQ.normal ?_ | refine CS.region ?_ | refine RS.pv (PV.add rfl rfl (by omega)) rfl ?_ | refine RS.nil ?_)
   exact ⟨nd - (q + 1), by omega, q + 1, c9, a9, vs ++ [v7], O9, R ++ O7, rfl, by omega, rfl, hO9, hR.snoc hD7, hg.le hi2, hl.le hi2, hset.le hi2, hi2.blk _ _ gs, rfl⟩
 · have hqd : q ≤ 2 := by omega
   repeat' (first | refine RS.pv (PV.all tab_ok rfl) rfl ?_ | refine CS.seq ?_ | refine thenQ.normal ?_ | refine CS.cond_false rfl ?_ | refine CS.block ?_ | refine CS.exit ?_ | refine thenQ.exit ?_ | refine blkQ.here ?_ | refine CS.region (id := 5) ?_ | refine CS.region (id := 8) ?_ | refine RS.lv (LV.load tab_ok rfl (Has.imm gs) rfl) rfl ?_ | refine RS.pv (PV.lenS tab_ok rfl rfl) rfl ?_ | refine RS.pv (PV.lssF rfl rfl (by omega)) rfl ?_ | (refine RS.call (Next_t _ 1 _ _ _ _ _ hl rfl (by omega) (by omega)) rfl (by kernel_rfl) rfl ?_; rintro _ _ _ - ⟨x, rfl, ⟨hx0, hx1⟩, rfl, rfl⟩) | refine RS.nil ?_)
   have hx2 : x ≤ 2 := by omega
   refine CS.loop [0, 4, 5, 6, 7, 9] (fun m vs' i' L9 => ∃ (k a2 : Int) (n cu : Nat) (au : Option Addr) (vs : List Value) (Oo R : SH), m = k.toNat ∧ 0 ≤ k ∧ k ≤ 2 ∧ n ≤ 2 ∧ a1 ≤ a2 ∧ a2 ≤ a1 + 1 + 30000 * (2 - k) ∧ vs' = [.pointer (some ⟨tp, 0, none⟩), .pointer (some ⟨r4, 0, none⟩), .pointer (some ⟨r5, 0, none⟩), .pointer (some ⟨bs, 0, none⟩), .pointer (some ⟨bu, 0, none⟩), .int .i64 k] ∧ SlO 60 (.slice au n cu) 1 n vs Oo ∧ OLs vs R ∧ Glb i' ∧ IntSl i' lv ∧ SetI i' [.slice ad nd cd, .slice ah nh ch, .slice am nm cm, .slice ab nb cb, .slice ao no co, .slice ak nk ck, .slice ae ne ce, .slice ap sp.length cp, .int .i64 lim] ∧ i'.blk bs = some (.cells (List.toArray [.slice ad nd cd, .slice ah nh ch, .slice am nm cm, .slice ab nb cb, .slice ao no co, .slice ak nk ck, .slice ae ne ce, .slice ap sp.length cp, .int .i64 lim]) 35 (0, 0)) ∧ L9 = (bu, setO (.slice au n cu) (.slice ah nh ch) (.slice am nm cm) (.slice ab nb cb) (.slice ao no co) (.slice ak nk ck) (.slice ae ne ce) (.slice ap sp.length cp) (.int .i64 lim)) :: (tp, tapeO lv a2) :: (r5, setO nilV nilV nilV nilV nilV nilV nilV nilV (.int .i64 0)) :: (r4, setO nilV nilV nilV nilV nilV nilV nilV nilV (.int .i64 0)) :: (Oo ++ (R ++ L))) _ ⟨_, _, q, _, _, _, _, _, rfl, hx0, hx2, hqd, by omega, by omega, rfl, hO, hR, hg, hl, hset, gs, rfl⟩ ?_
   clear hg hl hset gs hO hR hx0 hx1
   rintro m g vs' i _ hi ⟨k, a2, n, cu, au, vs, Oo, R, rfl, hk0, hk2, hn, ha21, ha22, rfl, hO, hR, hg, hl, hset, gs, rfl⟩
   by_cases hlt2 : 0 < k
   · by_cases hn0 : 0 < n
     · obtain ⟨hcl, ⟨hv0, hn9, _⟩ | ⟨g0, c9, sp9, hv0, hcap9, hlen9, rfl⟩⟩ := id hO
       · omega
       cases hv0
       repeat' (first | refine RS.pv (PV.all tab_ok rfl) rfl ?_ | refine CS.seq ?_ | refine thenQ.normal ?_ | refine CS.cond_true rfl ?_ | refine CS.skip ?_ | refine CS.block ?_ | refine CS.region (id := 9) ?_ | refine RS.pv (PV.gtrT rfl rfl (by omega)) rfl ?_ | refine RS.lv (LV.load tab_ok rfl (Has.own 0 rfl) rfl) rfl ?_ | refine RS.pv (PV.lenS tab_ok rfl rfl) rfl ?_ | refine RS.nil ?_)
       refine CS.region (id := 11) ?_
       iterate 2 refine RS.pv (PV.all tab_ok rfl) rfl ?_
       ((refine RS.lv (LV.load tab_ok rfl (Has.own 0 rfl) rfl) rfl ?_))
       (all_goals (refine RS.pv (PV.lenS tab_ok rfl rfl) rfl ?_))
       refine RS.call (Next_t _ 1 _ _ _ _ _ hl rfl (by omega) (by omega)) rfl (by kernel_rfl) rfl ?_
       rintro _ _ _ - ⟨d9, rfl, ⟨hd0, hd1⟩, rfl, rfl⟩
       refine RS.pv (PV.all tab_ok rfl) rfl ?_
       refine RS.nil ?_
       refine thenQ.normal ?_
       obtain ⟨v2, hv2⟩ : ∃ v2, vs[d9.toNat]? = some v2 := ⟨_, List.getElem?_eq_getElem (by omega)⟩
       have q2 : (vs ++ sp9)[0 + d9.toNat * 1 + 0]? = some v2 := by
        rw [Nat.zero_add, Nat.mul_one, Nat.add_zero, List.getElem?_append_left (by omega)]; exact hv2
       obtain ⟨A, O2, B, fs, hD, rfl, hback⟩ := hR.at hv2
       obtain ⟨a9, c2, rfl⟩ := hD.1.shape
       have hf3 := hD.2.1
       repeat' (first | refine RS.pv (PV.all tab_ok rfl) rfl ?_ | refine CS.seq ?_ | refine thenQ.normal ?_ | refine CS.cond_true rfl ?_ | refine CS.cond_false rfl ?_ | refine CS.region (id := 12) ?_ | (refine RS.call (Next_t _ 1 _ _ _ _ _ hl rfl (by omega) (by omega)) rfl (by kernel_rfl) rfl ?_; rintro _ _ _ - ⟨x, rfl, ⟨hx0, hx1⟩, rfl, rfl⟩) | refine RS.lv (LV.load tab_ok rfl (Has.own 0 rfl) rfl) rfl ?_ | refine RS.pv (PV.indexAddr tab_ok rfl rfl rfl (by omega)) rfl ?_ | refine RS.lv (LV.load1 tab_ok rfl (Has.own 4 rfl) rfl q2) rfl ?_ | refine RS.pv (PV.lenS tab_ok rfl rfl) rfl ?_ | refine RS.ifGtr rfl rfl rfl (fun h => ?_) (fun h => ?_) | refine RS.nil ?_ | refine RS.skip rfl ?_)
       · obtain ⟨hfl, ⟨hv1, hf0, _⟩ | ⟨g2, c3, sp2, hv1, hcap3, hlen3, rfl⟩⟩ := id hD.1
         · omega
         cases hv1
         refine CS.drawE mix [0,1,2,3,4,5,6,7,8,9,10,11,12,13,14] [15,16,17] [12,14] (fun L9 => ∃ t9, L9 = (bu, setO (.slice (some ⟨g0, 0, none⟩) n cu) (.slice ah nh ch) (.slice am nm cm) (.slice ab nb cb) (.slice ao no co) (.slice ak nk ck) (.slice ae ne ce) (.slice ap sp.length cp) (.int .i64 lim)) :: (tp, tapeO lv t9) :: (r5, setO nilV nilV nilV nilV nilV nilV nilV nilV (.int .i64 0)) :: (r4, setO nilV nilV nilV nilV nilV nilV nilV nilV (.int .i64 0)) :: ([(g0, .cells (vs ++ sp9).toArray 60 (0, 0))] ++ ((A ++ ([(g2, .cells (fils fs ++ sp2).toArray 64 (0, 0))] ++ B)) ++ L))) (fun L9 => L9 = (bu, setO (.slice (some ⟨g0, 0, none⟩) n cu) (.slice ah nh ch) (.slice am nm cm) (.slice ab nb cb) (.slice ao no co) (.slice ak nk ck) (.slice ae ne ce) (.slice ap sp.length cp) (.int .i64 lim)) :: (tp, tapeO lv (a2 + 1 + 1)) :: (r5, setO nilV nilV nilV nilV nilV nilV nilV nilV (.int .i64 0)) :: (r4, setO nilV nilV nilV nilV nilV nilV nilV nilV (.int .i64 0)) :: ([(g0, .cells (vs ++ sp9).toArray 60 (0, 0))] ++ ((A ++ ([(g2, .cells (fils fs ++ sp2).toArray 64 (0, 0))] ++ B)) ++ L))) (by kernel_rfl) (by decide) rfl ⟨_, rfl⟩ rfl ?_
         refine GM.pv (PV.all tab_ok rfl) rfl rfl rfl rfl rfl rfl ?_
         refine GM.lv (fun i' hi L' hL => by obtain ⟨X, rfl⟩ := hL; exact LV.load tab_ok rfl (Has.own 0 rfl) rfl) rfl rfl rfl rfl rfl rfl ?_
         refine GM.pv (PV.all tab_ok rfl) rfl rfl rfl rfl rfl rfl ?_
         (refine GM.pv (PV.indexAddr tab_ok rfl rfl rfl (by omega)) rfl rfl rfl rfl rfl rfl ?_)
         refine GM.lv (fun i' hi L' hL => by obtain ⟨X, rfl⟩ := hL; exact LV.load1 tab_ok rfl (Has.own 4 rfl) rfl q2) rfl rfl rfl rfl rfl rfl ?_
         iterate 2 refine GM.pv (PV.all tab_ok rfl) rfl rfl rfl rfl rfl rfl ?_
         refine GM.lv (fun i' hi L' hL => by obtain ⟨X, rfl⟩ := hL; exact LV.load tab_ok rfl (Has.own 0 rfl) rfl) rfl rfl rfl rfl rfl rfl ?_
         refine GM.pv (PV.all tab_ok rfl) rfl rfl rfl rfl rfl rfl ?_
         (refine GM.pv (PV.indexAddr tab_ok rfl rfl rfl (by omega)) rfl rfl rfl rfl rfl rfl ?_)
         refine GM.lv (fun i' hi L' hL => by obtain ⟨X, rfl⟩ := hL; exact LV.load1 tab_ok rfl (Has.own 4 rfl) rfl q2) rfl rfl rfl rfl rfl rfl ?_
         (refine GM.pv (PV.lenS tab_ok rfl rfl) rfl rfl rfl rfl rfl rfl ?_)
         refine GM.turnE (fun _ v => ∃ y, v = .int .i64 y ∧ Drawn fs.length y) (fun L9 => L9 = (bu, setO (.slice (some ⟨g0, 0, none⟩) n cu) (.slice ah nh ch) (.slice am nm cm) (.slice ab nb cb) (.slice ao no co) (.slice ak nk ck) (.slice ae ne ce) (.slice ap sp.length cp) (.int .i64 lim)) :: (tp, tapeO lv (a2 + 1 + 1 + 1)) :: (r5, setO nilV nilV nilV nilV nilV nilV nilV nilV (.int .i64 0)) :: (r4, setO nilV nilV nilV nilV nilV nilV nilV nilV (.int .i64 0)) :: ([(g0, .cells (vs ++ sp9).toArray 60 (0, 0))] ++ ((A ++ ([(g2, .cells (fils fs ++ sp2).toArray 64 (0, 0))] ++ B)) ++ L))) (Drawn.mono _) rfl rfl rfl rfl (fun i2 hi2 L' _ hA => ⟨rfl, by subst hA; exact OpS.call (by kernel_rfl) rfl (Next_A [_] tp lv _ _ i2 _ (hl.le hi2) (by omega) (by omega)) (fun _ _ _ _ ⟨y, h1, h2, h3, h4⟩ => ⟨⟨_, h4⟩, ⟨y, h1, h2⟩, h4⟩)⟩) ?_
         refine GM.pv (PV.all tab_ok rfl) rfl rfl rfl rfl rfl rfl ?_
         refine GM.turnE (fun _ v => ∃ s, v = .string s ∧ s.size ≤ 10000) (fun L9 => ∃ t9, a2 ≤ t9 ∧ t9 ≤ a2 + 3000 ∧ L9 = (bu, setO (.slice (some ⟨g0, 0, none⟩) n cu) (.slice ah nh ch) (.slice am nm cm) (.slice ab nb cb) (.slice ao no co) (.slice ak nk ck) (.slice ae ne ce) (.slice ap sp.length cp) (.int .i64 lim)) :: (tp, tapeO lv t9) :: (r5, setO nilV nilV nilV nilV nilV nilV nilV nilV (.int .i64 0)) :: (r4, setO nilV nilV nilV nilV nilV nilV nilV nilV (.int .i64 0)) :: ([(g0, .cells (vs ++ sp9).toArray 60 (0, 0))] ++ ((A ++ ([(g2, .cells (fils fs ++ sp2).toArray 64 (0, 0))] ++ B)) ++ L))) (StrLe.mono 10000) rfl rfl rfl rfl (fun i2 hi2 L' _ hA => ⟨rfl, by subst hA; exact OpS.call (by kernel_rfl) rfl (tapeA [_] _ (fun L => TextW_t tp lv _ 3 i2 L (hg.le hi2) (hl.le hi2) (by omega) (by omega))) (fun _ _ _ _ ⟨h1, a', h3, h4, h5⟩ => ⟨⟨_, h5⟩, h1, a', by omega, by omega, h5⟩)⟩) ?_
         refine GM.doneE rfl rfl (fun i2 L2 hi2 _ hA => ?_)
         obtain ⟨t9, ht1, ht2, rfl⟩ := hA
         rintro _ ⟨tx, rfl, htx⟩ _ ⟨y, rfl, hy0, hy1⟩
         have hy : 0 ≤ y ∧ y < fs.length := by omega
         obtain ⟨fy, hfy⟩ : ∃ f, fs[y.toNat]? = some f := ⟨_, List.getElem?_eq_getElem (by omega)⟩
         have hfyo := hD.2.2 fy (List.mem_of_getElem? hfy)
         (refine RS.pv (PV.indexAddr tab_ok rfl rfl rfl (by omega)) rfl ?_)
         refine RS.pv (PV.all tab_ok rfl) rfl ?_
         refine RS.perm (List.Perm.of_eq (show _ = ((bu, setO (.slice (some ⟨g0, 0, none⟩) n cu) (.slice ah nh ch) (.slice am nm cm) (.slice ab nb cb) (.slice ao no co) (.slice ak nk ck) (.slice ae ne ce) (.slice ap sp.length cp) (.int .i64 lim)) :: (tp, tapeO lv t9) :: (r5, setO nilV nilV nilV nilV nilV nilV nilV nilV (.int .i64 0)) :: (r4, setO nilV nilV nilV nilV nilV nilV nilV nilV (.int .i64 0)) :: (g0, .cells (vs ++ sp9).toArray 60 (0, 0)) :: A) ++ ([(g2, .cells (fils fs ++ sp2).toArray 64 (0, 0))] ++ (B ++ L)) by simp)) ?_
         refine RS.op (OpS.storeC ((bu, setO (.slice (some ⟨g0, 0, none⟩) n cu) (.slice ah nh ch) (.slice am nm cm) (.slice ab nb cb) (.slice ao no co) (.slice ak nk ck) (.slice ae ne ce) (.slice ap sp.length cp) (.int .i64 lim)) :: (tp, tapeO lv t9) :: (r5, setO nilV nilV nilV nilV nilV nilV nilV nilV (.int .i64 0)) :: (r4, setO nilV nilV nilV nilV nilV nilV nilV nilV (.int .i64 0)) :: (g0, .cells (vs ++ sp9).toArray 60 (0, 0)) :: A) (off := 0 + y.toNat * 2 + 1) (u := .string tx) tab_ok hD.1 rfl rfl rfl rfl (by rw [hfl]; omega)) rfl ?_
         rintro _ i3 _ hi3 ⟨O', hO', rfl⟩
         replace hi3 := hi2.trans hi3
         refine RS.nil ?_
         repeat' (first | refine RS.pv (PV.all tab_ok rfl) rfl ?_ | refine thenQ.normal ?_ | refine blkQ.normal ?_ | refine CS.region ?_ | refine RS.pv (PV.sub rfl rfl (by omega)) rfl ?_ | refine RS.nil ?_)
         rw [Nat.zero_add, ← fils_set fs y.toNat fy tx hfy] at hO'
         have efs : (fs.set y.toNat ⟨fy.name, tx⟩).length = fs.length := by simp
         refine ⟨(k - 1).toNat, by omega, k - 1, t9, n, cu, _, vs, _, A ++ (O' ++ B), rfl, by omega, by omega, hn, by omega, by omega, rfl, hO, hback (fs.set y.toNat ⟨fy.name, tx⟩) O' ⟨by rw [efs]; exact hO', by rw [efs]; exact hf3, fun f hf => ?_⟩, hg.le hi3, hl.le hi3, hset.le hi3, hi3.blk _ _ gs, by simp⟩
         rcases List.mem_or_eq_of_mem_set hf with hf | rfl
         · exact hD.2.2 f hf
         · exact ⟨hfyo.1, htx⟩
       · repeat' (first | refine RS.pv (PV.all tab_ok rfl) rfl ?_ | refine thenQ.normal ?_ | refine CS.cond_true rfl ?_ | refine CS.cond_false rfl ?_ | refine CS.skip ?_ | refine blkQ.normal ?_ | refine CS.region (id := 10) ?_ | refine CS.region (id := 14) ?_ | (refine RS.call (Next_t _ 1 _ _ _ _ _ hl rfl (by omega) (by omega)) rfl (by kernel_rfl) rfl ?_; rintro _ _ _ - ⟨x, rfl, ⟨hx0, hx1⟩, rfl, rfl⟩) | refine RS.pv (PV.sub rfl rfl (by omega)) rfl ?_ | refine RS.ifEql rfl rfl rfl (fun h => ?_) (fun h => ?_) | refine RS.nil ?_)
         · refine CS.region (id := 15) ?_
           refine RS.pv (PV.all tab_ok rfl) rfl ?_
           refine RS.perm (List.Perm.swap _ _ _) ?_
           refine RS.call (Dirs_t tp lv _ _ _ hg hl (by omega)) rfl (by kernel_rfl) rfl ?_
           rintro _ i9 _ hi9 ⟨a3, ao9, n9, cap9, vs9, O9, R9, rfl, hA1, hA2, hO9, hR9, hn9, rfl⟩
           refine RS.perm (L' := [(bu, setO (.slice (some ⟨g0, 0, none⟩) n cu) (.slice ah nh ch) (.slice am nm cm) (.slice ab nb cb) (.slice ao no co) (.slice ak nk ck) (.slice ae ne ce) (.slice ap sp.length cp) (.int .i64 lim)), (tp, tapeO lv a3), (r5, setO nilV nilV nilV nilV nilV nilV nilV nilV (.int .i64 0)), (r4, setO nilV nilV nilV nilV nilV nilV nilV nilV (.int .i64 0))] ++ (([(g0, .cells (vs ++ sp9).toArray 60 (0, 0))] ++ (A ++ (O2 ++ B))) ++ (O9 ++ (R9 ++ L)))) (perm_of_sum _ _ fun f => by simp; omega) ?_
           refine RS.garb [_, _, _, _] _ _ ?_
           refine RS.pv (PV.all tab_ok rfl) rfl ?_
           (refine RS.store (k := 0) tab_ok rfl rfl rfl rfl rfl rfl rfl rfl ?_)
           refine RS.nil ?_
           repeat' (first | refine RS.pv (PV.all tab_ok rfl) rfl ?_ | refine thenQ.normal ?_ | refine blkQ.normal ?_ | refine CS.region ?_ | refine RS.pv (PV.sub rfl rfl (by omega)) rfl ?_ | refine RS.nil ?_)
           exact ⟨(k - 1).toNat, by omega, k - 1, a3, n9, cap9, ao9, vs9, O9, R9, rfl, by omega, by omega, hn9, by omega, by omega, rfl, hO9, hR9, hg.le hi9, hl.le hi9, hset.le hi9, hi9.blk _ _ gs, rfl⟩
         · exact ⟨(k - 1).toNat, by omega, k - 1, _, n, cu, _, vs, _, _, rfl, by omega, by omega, hn, by omega, by omega, rfl, hO, hR, hg, hl, hset, gs, rfl⟩
       · repeat' (first | refine RS.pv (PV.all tab_ok rfl) rfl ?_ | refine thenQ.normal ?_ | refine CS.cond_true rfl ?_ | refine CS.cond_false rfl ?_ | refine CS.skip ?_ | refine blkQ.normal ?_ | refine CS.region (id := 10) ?_ | refine CS.region (id := 14) ?_ | (refine RS.call (Next_t _ 1 _ _ _ _ _ hl rfl (by omega) (by omega)) rfl (by kernel_rfl) rfl ?_; rintro _ _ _ - ⟨x, rfl, ⟨hx0, hx1⟩, rfl, rfl⟩) | refine RS.pv (PV.sub rfl rfl (by omega)) rfl ?_ | refine RS.ifEql rfl rfl rfl (fun h => ?_) (fun h => ?_) | refine RS.nil ?_)
         · refine CS.region (id := 15) ?_
           refine RS.pv (PV.all tab_ok rfl) rfl ?_
           refine RS.perm (List.Perm.swap _ _ _) ?_
           refine RS.call (Dirs_t tp lv _ _ _ hg hl (by omega)) rfl (by kernel_rfl) rfl ?_
           rintro _ i9 _ hi9 ⟨a3, ao9, n9, cap9, vs9, O9, R9, rfl, hA1, hA2, hO9, hR9, hn9, rfl⟩
           refine RS.perm (L' := [(bu, setO (.slice (some ⟨g0, 0, none⟩) n cu) (.slice ah nh ch) (.slice am nm cm) (.slice ab nb cb) (.slice ao no co) (.slice ak nk ck) (.slice ae ne ce) (.slice ap sp.length cp) (.int .i64 lim)), (tp, tapeO lv a3), (r5, setO nilV nilV nilV nilV nilV nilV nilV nilV (.int .i64 0)), (r4, setO nilV nilV nilV nilV nilV nilV nilV nilV (.int .i64 0))] ++ (([(g0, .cells (vs ++ sp9).toArray 60 (0, 0))] ++ (A ++ (O2 ++ B))) ++ (O9 ++ (R9 ++ L)))) (perm_of_sum _ _ fun f => by simp; omega) ?_
           refine RS.garb [_, _, _, _] _ _ ?_
           refine RS.pv (PV.all tab_ok rfl) rfl ?_
           (refine RS.store (k := 0) tab_ok rfl rfl rfl rfl rfl rfl rfl rfl ?_)
           refine RS.nil ?_
           repeat' (first | refine RS.pv (PV.all tab_ok rfl) rfl ?_ | refine thenQ.normal ?_ | refine blkQ.normal ?_ | refine CS.region ?_ | refine RS.pv (PV.sub rfl rfl (by omega)) rfl ?_ | refine RS.nil ?_)
           exact ⟨(k - 1).toNat, by omega, k - 1, a3, n9, cap9, ao9, vs9, O9, R9, rfl, by omega, by omega, hn9, by omega, by omega, rfl, hO9, hR9, hg.le hi9, hl.le hi9, hset.le hi9, hi9.blk _ _ gs, rfl⟩
         · exact ⟨(k - 1).toNat, by omega, k - 1, _, n, cu, _, vs, _, _, rfl, by omega, by omega, hn, by omega, by omega, rfl, hO, hR, hg, hl, hset, gs, rfl⟩
     · repeat' (first | refine RS.pv (PV.all tab_ok rfl) rfl ?_ | refine CS.seq ?_ | refine thenQ.normal ?_ | refine CS.cond_false rfl ?_ | refine CS.exit ?_ | refine thenQ.exit ?_ | refine blkQ.here ?_ | refine CS.region (id := 9) ?_ | refine RS.pv (PV.gtrT rfl rfl (by omega)) rfl ?_ | refine RS.lv (LV.load tab_ok rfl (Has.own 0 rfl) rfl) rfl ?_ | refine RS.pv (PV.lenS tab_ok rfl rfl) rfl ?_ | refine RS.pv (PV.gtrF rfl rfl (by omega)) rfl ?_ | refine RS.nil ?_)
       refine CS.freezeSl hO (L0 := (bu, setO (.slice au n cu) (.slice ah nh ch) (.slice am nm cm) (.slice ab nb cb) (.slice ao no co) (.slice ak nk ck) (.slice ae ne ce) (.slice ap sp.length cp) (.int .i64 lim)) :: (tp, tapeO lv a2) :: (r5, setO nilV nilV nilV nilV nilV nilV nilV nilV (.int .i64 0)) :: (r4, setO nilV nilV nilV nilV nilV nilV nilV nilV (.int .i64 0)) :: (R ++ L)) (List.perm_append_comm_assoc [_, _, _, _] Oo _) (fun i3 hi3 hsm => ?_)
       refine CS.perm (List.perm_append_comm_assoc [_, _, _, _] R L) ?_
       refine CS.state fun w hw => (hR.freeze hw).elim fun i4 hh => ⟨i4, _, hh.1, hh.2.1, ?_⟩
       obtain ⟨hi4, -, hDv⟩ := hh
       have hdu : DirsI i4 (.slice au n cu) := ⟨n, vs, hsm.le hi4, hn, hDv⟩
       replace hi4 := hi3.trans hi4
       replace hg := hg.le hi4
       replace hset := hset.le hi4
       replace gs := hi4.blk _ _ gs
       obtain ⟨_, h9, m9, b9, o9, k9, e9, p9, lim9, hse, hsd, hs2⟩ := id hset
       cases hse
       have hset2 : SetI i4 [.slice au n cu, .slice ah nh ch, .slice am nm cm, .slice ab nb cb, .slice ao no co, .slice ak nk ck, .slice ae ne ce, .slice ap sp.length cp, .int .i64 lim] := ⟨_, _, _, _, _, _, _, _, _, rfl, hdu, hs2⟩
       refine CS.region (id := 16) ?_
       refine RS.lv (LV.load tab_ok rfl (Has.imm gs) rfl) rfl ?_
       refine RS.call (Rules24_t [.slice ad nd cd, .slice ah nh ch, .slice am nm cm, .slice ab nb cb, .slice ao no co, .slice ak nk ck, .slice ae ne ce, .slice ap sp.length cp, .int .i64 lim] _ _ hg hset) rfl (by kernel_rfl) rfl ?_
       rintro _ i5 _ hi5 ⟨⟨ra, fa, ea, rfl, hra, ⟨_, _, _, rfl⟩, ⟨_, rfl⟩⟩, rfl⟩
       obtain ⟨ara, nra, kra, rfl, -⟩ := hra.shape
       iterate 7 refine RS.pv (PV.all tab_ok rfl) rfl ?_
       refine RS.nil ?_
       repeat' (first | refine CS.seq ?_ | refine thenQ.normal ?_)
       refine CS.region (id := 17) ?_
       refine RS.lv (LV.load tab_ok rfl (Has.own 0 rfl) rfl) rfl ?_
       refine RS.call (Rules24_t [.slice au n cu, .slice ah nh ch, .slice am nm cm, .slice ab nb cb, .slice ao no co, .slice ak nk ck, .slice ae ne ce, .slice ap sp.length cp, .int .i64 lim] _ _ (hg.le hi5) (hset2.le hi5)) rfl (by kernel_rfl) rfl ?_
       rintro _ i6 _ hi6 ⟨⟨rb, fb, eb, rfl, hrb, ⟨_, _, _, rfl⟩, ⟨_, rfl⟩⟩, rfl⟩
       obtain ⟨arb, nrb, krb, rfl, -⟩ := hrb.shape
       replace hra := hra.le hi6
       replace gs := (hi5.trans hi6).blk _ _ gs
       iterate 7 refine RS.pv (PV.all tab_ok rfl) rfl ?_
       refine RS.nil ?_
       repeat' (first | refine CS.seq ?_ | refine thenQ.normal ?_)
       refine CS.drawE mix [0,1,2,3,4,5,6,7] [] [6,7] (fun L9 => ∃ o4 o5, L9 = (bu, setO (.slice au n cu) (.slice ah nh ch) (.slice am nm cm) (.slice ab nb cb) (.slice ao no co) (.slice ak nk ck) (.slice ae ne ce) (.slice ap sp.length cp) (.int .i64 lim)) :: (tp, tapeO lv a2) :: (r5, o5) :: (r4, o4) :: L) (fun L9 => L9 = (bu, setO (.slice au n cu) (.slice ah nh ch) (.slice am nm cm) (.slice ab nb cb) (.slice ao no co) (.slice ak nk ck) (.slice ae ne ce) (.slice ap sp.length cp) (.int .i64 lim)) :: (tp, tapeO lv a2) :: (r5, setO nilV nilV nilV nilV nilV nilV nilV nilV (.int .i64 0)) :: (r4, setO nilV nilV nilV nilV nilV nilV nilV nilV (.int .i64 0)) :: L) (by kernel_rfl) (by decide) rfl ⟨_, _, rfl⟩ rfl ?_
       iterate 2 refine GM.pv (PV.all tab_ok rfl) rfl rfl rfl rfl rfl rfl ?_
       refine GM.lv (fun i' hi L' hL => LV.load tab_ok rfl (Has.imm (hi.blk _ _ gs)) rfl) rfl rfl rfl rfl rfl rfl ?_
       refine GM.lv (fun i' hi L' hL => by obtain ⟨o4, o5, rfl⟩ := hL; exact LV.load tab_ok rfl (Has.own 0 rfl) rfl) rfl rfl rfl rfl rfl rfl ?_
       iterate 2 refine GM.pv (PV.all tab_ok rfl) rfl rfl rfl rfl rfl rfl ?_
       refine GM.turnE0 (fun L9 => L9 = (bu, setO (.slice au n cu) (.slice ah nh ch) (.slice am nm cm) (.slice ab nb cb) (.slice ao no co) (.slice ak nk ck) (.slice ae ne ce) (.slice ap sp.length cp) (.int .i64 lim)) :: (tp, tapeO lv a2) :: (r5, setO nilV nilV nilV nilV nilV nilV nilV nilV (.int .i64 0)) :: (r4, .cells (List.toArray [.slice ad nd cd, .slice ah nh ch, .slice am nm cm, .slice ab nb cb, .slice ao no co, .slice ak nk ck, .slice ae ne ce, .slice ap sp.length cp, .int .i64 lim]) 35 (0, 0)) :: L) rfl rfl rfl rfl (fun i' hi L' _ hA => ⟨rfl, by subst hA; exact OpS.store (k := 3) tab_ok rfl rfl rfl rfl rfl rfl rfl ⟨⟨_, _, rfl⟩, rfl⟩⟩) ?_
       refine GM.turnE0 (fun L9 => L9 = (bu, setO (.slice au n cu) (.slice ah nh ch) (.slice am nm cm) (.slice ab nb cb) (.slice ao no co) (.slice ak nk ck) (.slice ae ne ce) (.slice ap sp.length cp) (.int .i64 lim)) :: (tp, tapeO lv a2) :: (r5, setO (.slice au n cu) (.slice ah nh ch) (.slice am nm cm) (.slice ab nb cb) (.slice ao no co) (.slice ak nk ck) (.slice ae ne ce) (.slice ap sp.length cp) (.int .i64 lim)) :: (r4, .cells (List.toArray [.slice ad nd cd, .slice ah nh ch, .slice am nm cm, .slice ab nb cb, .slice ao no co, .slice ak nk ck, .slice ae ne ce, .slice ap sp.length cp, .int .i64 lim]) 35 (0, 0)) :: L) rfl rfl rfl rfl (fun i' hi L' _ hA => ⟨rfl, by subst hA; exact OpS.store (k := 2) tab_ok rfl rfl rfl rfl rfl rfl rfl ⟨⟨_, _, rfl⟩, rfl⟩⟩) ?_
       refine GM.doneE rfl rfl (fun i7 L7 hi7 _ hA => ?_)
       subst hA
       refine RS.nil ?_
       repeat' (first | refine thenQ.normal ?_ | refine CS.ret ?_ | refine retQ.ret ?_)
       exact ⟨r4, _, _, _, _, r5, _, _, _, _, rfl, Has.own 3 rfl, rfl, rfl, Has.own 2 rfl, rfl, _, _, _, a2, ⟨_, _, [.slice ad nd cd, .slice ah nh ch, .slice am nm cm, .slice ab nb cb, .slice ao no co, .slice ak nk ck, .slice ae ne ce, .slice ap sp.length cp, .int .i64 lim], [.slice au n cu, .slice ah nh ch, .slice am nm cm, .slice ab nb cb, .slice ao no co, .slice ak nk ck, .slice ae ne ce, .slice ap sp.length cp, .int .i64 lim], rfl, hra.le hi7, hrb.le hi7, hset.le ((hi5.trans hi6).trans hi7), hset2.le ((hi5.trans hi6).trans hi7)⟩, rfl⟩
   · repeat' (first | refine RS.pv (PV.all tab_ok rfl) rfl ?_ | refine CS.seq ?_ | refine thenQ.normal ?_ | refine CS.cond_false rfl ?_ | refine CS.exit ?_ | refine thenQ.exit ?_ | refine blkQ.here ?_ | refine CS.region (id := 9) ?_ | refine RS.pv (PV.gtrF rfl rfl (by omega)) rfl ?_ | refine RS.nil ?_ | refine RS.skip rfl ?_)
     refine CS.freezeSl hO (L0 := (bu, setO (.slice au n cu) (.slice ah nh ch) (.slice am nm cm) (.slice ab nb cb) (.slice ao no co) (.slice ak nk ck) (.slice ae ne ce) (.slice ap sp.length cp) (.int .i64 lim)) :: (tp, tapeO lv a2) :: (r5, setO nilV nilV nilV nilV nilV nilV nilV nilV (.int .i64 0)) :: (r4, setO nilV nilV nilV nilV nilV nilV nilV nilV (.int .i64 0)) :: (R ++ L)) (List.perm_append_comm_assoc [_, _, _, _] Oo _) (fun i3 hi3 hsm => ?_)
     refine CS.perm (List.perm_append_comm_assoc [_, _, _, _] R L) ?_
     refine CS.state fun w hw => (hR.freeze hw).elim fun i4 hh => ⟨i4, _, hh.1, hh.2.1, ?_⟩
     obtain ⟨hi4, -, hDv⟩ := hh
     have hdu : DirsI i4 (.slice au n cu) := ⟨n, vs, hsm.le hi4, hn, hDv⟩
     replace hi4 := hi3.trans hi4
     replace hg := hg.le hi4
     replace hset := hset.le hi4
     replace gs := hi4.blk _ _ gs
     obtain ⟨_, h9, m9, b9, o9, k9, e9, p9, lim9, hse, hsd, hs2⟩ := id hset
     cases hse
     have hset2 : SetI i4 [.slice au n cu, .slice ah nh ch, .slice am nm cm, .slice ab nb cb, .slice ao no co, .slice ak nk ck, .slice ae ne ce, .slice ap sp.length cp, .int .i64 lim] := ⟨_, _, _, _, _, _, _, _, _, rfl, hdu, hs2⟩
     refine CS.region (id := 16) ?_
     refine RS.lv (LV.load tab_ok rfl (Has.imm gs) rfl) rfl ?_
     refine RS.call (Rules24_t [.slice ad nd cd, .slice ah nh ch, .slice am nm cm, .slice ab nb cb, .slice ao no co, .slice ak nk ck, .slice ae ne ce, .slice ap sp.length cp, .int .i64 lim] _ _ hg hset) rfl (by kernel_rfl) rfl ?_
     rintro _ i5 _ hi5 ⟨⟨ra, fa, ea, rfl, hra, ⟨_, _, _, rfl⟩, ⟨_, rfl⟩⟩, rfl⟩
     obtain ⟨ara, nra, kra, rfl, -⟩ := hra.shape
     iterate 7 refine RS.pv (PV.all tab_ok rfl) rfl ?_
     refine RS.nil ?_
     repeat' (first | refine CS.seq ?_ | refine thenQ.normal ?_)
     refine CS.region (id := 17) ?_
     refine RS.lv (LV.load tab_ok rfl (Has.own 0 rfl) rfl) rfl ?_
     refine RS.call (Rules24_t [.slice au n cu, .slice ah nh ch, .slice am nm cm, .slice ab nb cb, .slice ao no co, .slice ak nk ck, .slice ae ne ce, .slice ap sp.length cp, .int .i64 lim] _ _ (hg.le hi5) (hset2.le hi5)) rfl (by kernel_rfl) rfl ?_
     rintro _ i6 _ hi6 ⟨⟨rb, fb, eb, rfl, hrb, ⟨_, _, _, rfl⟩, ⟨_, rfl⟩⟩, rfl⟩
     obtain ⟨arb, nrb, krb, rfl, -⟩ := hrb.shape
     replace hra := hra.le hi6
     replace gs := (hi5.trans hi6).blk _ _ gs
     iterate 7 refine RS.pv (PV.all tab_ok rfl) rfl ?_
     refine RS.nil ?_
     repeat' (first | refine CS.seq ?_ | refine thenQ.normal ?_)
     refine CS.drawE mix [0,1,2,3,4,5,6,7] [] [6,7] (fun L9 => ∃ o4 o5, L9 = (bu, setO (.slice au n cu) (.slice ah nh ch) (.slice am nm cm) (.slice ab nb cb) (.slice ao no co) (.slice ak nk ck) (.slice ae ne ce) (.slice ap sp.length cp) (.int .i64 lim)) :: (tp, tapeO lv a2) :: (r5, o5) :: (r4, o4) :: L) (fun L9 => L9 = (bu, setO (.slice au n cu) (.slice ah nh ch) (.slice am nm cm) (.slice ab nb cb) (.slice ao no co) (.slice ak nk ck) (.slice ae ne ce) (.slice ap sp.length cp) (.int .i64 lim)) :: (tp, tapeO lv a2) :: (r5, setO nilV nilV nilV nilV nilV nilV nilV nilV (.int .i64 0)) :: (r4, setO nilV nilV nilV nilV nilV nilV nilV nilV (.int .i64 0)) :: L) (by kernel_rfl) (by decide) rfl ⟨_, _, rfl⟩ rfl ?_
     iterate 2 refine GM.pv (PV.all tab_ok rfl) rfl rfl rfl rfl rfl rfl ?_
     refine GM.lv (fun i' hi L' hL => LV.load tab_ok rfl (Has.imm (hi.blk _ _ gs)) rfl) rfl rfl rfl rfl rfl rfl ?_
     refine GM.lv (fun i' hi L' hL => by obtain ⟨o4, o5, rfl⟩ := hL; exact LV.load tab_ok rfl (Has.own 0 rfl) rfl) rfl rfl rfl rfl rfl rfl ?_
     iterate 2 refine GM.pv (PV.all tab_ok rfl) rfl rfl rfl rfl rfl rfl ?_
     refine GM.turnE0 (fun L9 => L9 = (bu, setO (.slice au n cu) (.slice ah nh ch) (.slice am nm cm) (.slice ab nb cb) (.slice ao no co) (.slice ak nk ck) (.slice ae ne ce) (.slice ap sp.length cp) (.int .i64 lim)) :: (tp, tapeO lv a2) :: (r5, setO nilV nilV nilV nilV nilV nilV nilV nilV (.int .i64 0)) :: (r4, .cells (List.toArray [.slice ad nd cd, .slice ah nh ch, .slice am nm cm, .slice ab nb cb, .slice ao no co, .slice ak nk ck, .slice ae ne ce, .slice ap sp.length cp, .int .i64 lim]) 35 (0, 0)) :: L) rfl rfl rfl rfl (fun i' hi L' _ hA => ⟨rfl, by subst hA; exact OpS.store (k := 3) tab_ok rfl rfl rfl rfl rfl rfl rfl ⟨⟨_, _, rfl⟩, rfl⟩⟩) ?_
     refine GM.turnE0 (fun L9 => L9 = (bu, setO (.slice au n cu) (.slice ah nh ch) (.slice am nm cm) (.slice ab nb cb) (.slice ao no co) (.slice ak nk ck) (.slice ae ne ce) (.slice ap sp.length cp) (.int .i64 lim)) :: (tp, tapeO lv a2) :: (r5, setO (.slice au n cu) (.slice ah nh ch) (.slice am nm cm) (.slice ab nb cb) (.slice ao no co) (.slice ak nk ck) (.slice ae ne ce) (.slice ap sp.length cp) (.int .i64 lim)) :: (r4, .cells (List.toArray [.slice ad nd cd, .slice ah nh ch, .slice am nm cm, .slice ab nb cb, .slice ao no co, .slice ak nk ck, .slice ae ne ce, .slice ap sp.length cp, .int .i64 lim]) 35 (0, 0)) :: L) rfl rfl rfl rfl (fun i' hi L' _ hA => ⟨rfl, by subst hA; exact OpS.store (k := 2) tab_ok rfl rfl rfl rfl rfl rfl rfl ⟨⟨_, _, rfl⟩, rfl⟩⟩) ?_
     refine GM.doneE rfl rfl (fun i7 L7 hi7 _ hA => ?_)
     subst hA
     refine RS.nil ?_
     repeat' (first | refine thenQ.normal ?_ | refine CS.ret ?_ | refine retQ.ret ?_)
     exact ⟨r4, _, _, _, _, r5, _, _, _, _, rfl, Has.own 3 rfl, rfl, rfl, Has.own 2 rfl, rfl, _, _, _, a2, ⟨_, _, [.slice ad nd cd, .slice ah nh ch, .slice am nm cm, .slice ab nb cb, .slice ao no co, .slice ak nk ck, .slice ae ne ce, .slice ap sp.length cp, .int .i64 lim], [.slice au n cu, .slice ah nh ch, .slice am nm cm, .slice ab nb cb, .slice ao no co, .slice ak nk ck, .slice ae ne ce, .slice ap sp.length cp, .int .i64 lim], rfl, hra.le hi7, hrb.le hi7, hset.le ((hi5.trans hi6).trans hi7), hset2.le ((hi5.trans hi6).trans hi7)⟩, rfl⟩
end Go.Proofs.YtckdkhhpjnefpaaGreatDoor
namespace Go.Proofs.YtckdkhhpjnefpaaGreatDoor
set_option maxHeartbeats 4000000
open Go Go.Eng
noncomputable instance : DecidableEq Term := fun a b => Classical.propDecidable (a = b)
theorem upto_succ {α : Type} {a b : List α} {k : Nat} (h : ∀ j, j < k → a[j]? = b[j]?) (hk : a[k]? = b[k]?) : ∀ j, j < k + 1 → a[j]? = b[j]? := fun j hj => by
 rcases Nat.lt_succ_iff_lt_or_eq.1 hj with hj | rfl
 · exact h j hj
 · exact hk
theorem termC_eq (x y : Term) : allEq (termC x) (termC y) = decide (x = y) := by
 obtain ⟨a, b, c, d⟩ := x
 obtain ⟨e, f, g, h⟩ := y
 rw [Bool.eq_iff_iff, decide_eq_true_iff]
 simp [allEq, scEq, termC]
theorem SameTerms_t (va vb : Value) (a b : List Term) (i : Imm) (L : SH) (ha : Sl i va 4 a.length (terms a)) (hb : Sl i vb 4 b.length (terms b)) (hn : a.length ≤ 9223372036854775807) :
 FnS Tryz.prog 29 [va, vb] i L fun v i' L' => v = .bool (decide (a = b)) ∧ i' = i ∧ L' = L := by
 obtain ⟨aa, ac, hva, _⟩ := id ha
 obtain ⟨ba, bc, hvb, _⟩ := id hb
 subst hva
 subst hvb
 refine FnS.intro1 Tryz.func29 rfl Tryz.ntmps29 (by simp) Tryz.results29 ?_
 by_cases hl : a.length = b.length
 · repeat' (first | refine RS.pv (PV.all tab_ok rfl) rfl ?_ | refine CS.seq ?_ | refine thenQ.normal ?_ | refine CS.cond_false rfl ?_ | refine CS.skip ?_ | refine CS.block ?_ | refine CS.region (id := 0) ?_ | refine CS.region (id := 1) ?_ | refine CS.region (id := 3) ?_ | refine RS.pv (PV.lenS tab_ok rfl rfl) rfl ?_ | refine RS.pv (PV.neqF rfl rfl (by omega)) rfl ?_ | refine RS.nil ?_)
   refine CS.loop [0, 1, 5] (fun m vs i' L' => ∃ k : Nat, m = a.length - k ∧ k ≤ a.length ∧ (∀ j, j < k → a[j]? = b[j]?) ∧ vs = [.slice aa a.length ac, .slice ba b.length bc, .int .i64 (k : Int)] ∧ i' = i ∧ L' = L) a.length ⟨0, rfl, Nat.zero_le _, fun j hj => absurd hj (by omega), rfl, rfl, rfl⟩ ?_
   rintro m g vs i' L' hi ⟨k, rfl, hk, hpre, rfl, rfl, rfl⟩
   by_cases hlt : k < a.length
   · obtain ⟨x, hx⟩ : ∃ x, a[k]? = some x := ⟨_, List.getElem?_eq_getElem hlt⟩
     obtain ⟨y, hy⟩ : ∃ y, b[k]? = some y := ⟨_, List.getElem?_eq_getElem (by omega)⟩
     obtain ⟨b1, o1, c1, t1, z1, p1, e1, g1, q1⟩ := Sl.term ha hx
     obtain ⟨b2, o2, c2, t2, z2, p2, e2, g2, q2⟩ := Sl.term hb hy
     cases e1
     cases e2
     repeat' (first | refine RS.pv (PV.all tab_ok rfl) rfl ?_ | refine QS.pv (PV.all tab_ok rfl) rfl ?_ | refine CS.seq ?_ | refine thenQ.normal ?_ | refine CS.cond_true rfl ?_ | refine CS.cond_false rfl ?_ | refine CS.skip ?_ | refine CS.ret ?_ | refine thenQ.ret ?_ | refine blkQ.ret ?_ | refine retQ.ret ?_ | refine CS.block ?_ | refine blkQ.normal ?_ | refine CS.region (id := 4) ?_ | refine CS.region (id := 5) ?_ | refine CS.drawQ (id := 6) mix (by kernel_rfl) ?_ | refine CS.region (id := 7) ?_ | refine RS.pv (PV.lenS tab_ok rfl rfl) rfl ?_ | refine RS.pv (PV.lssT rfl rfl (by omega)) rfl ?_ | refine RS.pv (PV.add rfl rfl (by omega)) rfl ?_ | refine QS.pv (PV.indexAddr tab_ok rfl rfl rfl (by omega)) rfl ?_ | refine QS.lv (LV.loadL tab_ok rfl (Has.imm g1) (l := termC x) rfl rfl rfl q1) rfl ?_ | refine QS.lv (LV.loadL tab_ok rfl (Has.imm g2) (l := termC y) rfl rfl rfl q2) rfl ?_ | refine QS.pvN (p := x = y) (by rw [← termC_eq]; exact PV.stneq tab_ok (by kernel_rfl) (by kernel_rfl) rfl rfl (by kernel_rfl)) rfl (fun h => ?_) (fun h => ?_) | refine RS.nil ?_ | refine QS.nil ?_)
     · exact ⟨a.length - (k + 1), by omega, k + 1, rfl, hlt, upto_succ hpre (by rw [hx, hy, h]), rfl, rfl, rfl⟩
     · refine ⟨congrArg Value.bool (decide_eq_false fun e => h ?_).symm, rfl, rfl⟩
       rw [e, hy] at hx
       cases hx; rfl
   · have : k = a.length := by omega
     subst this
     repeat' (first | refine RS.pv (PV.all tab_ok rfl) rfl ?_ | refine CS.seq ?_ | refine thenQ.normal ?_ | refine CS.cond_false rfl ?_ | refine CS.ret ?_ | refine retQ.ret ?_ | refine CS.exit ?_ | refine thenQ.exit ?_ | refine blkQ.here ?_ | refine CS.region (id := 4) ?_ | refine CS.region (id := 8) ?_ | refine RS.pv (PV.lenS tab_ok rfl rfl) rfl ?_ | refine RS.pv (PV.lssF rfl rfl (by omega)) rfl ?_ | refine RS.nil ?_)
     refine ⟨congrArg Value.bool (decide_eq_true ?_).symm, rfl, rfl⟩
     refine List.ext_getElem? fun j => ?_
     by_cases hj : j < a.length
     · exact hpre j hj
     · rw [List.getElem?_eq_none (by omega), List.getElem?_eq_none (by omega)]
 · repeat' (first | refine RS.pv (PV.all tab_ok rfl) rfl ?_ | refine CS.seq ?_ | refine thenQ.normal ?_ | refine CS.cond_true rfl ?_ | refine CS.ret ?_ | refine thenQ.ret ?_ | refine retQ.ret ?_ | refine CS.region (id := 0) ?_ | refine CS.region (id := 1) ?_ | refine CS.region (id := 2) ?_ | refine RS.pv (PV.lenS tab_ok rfl rfl) rfl ?_ | refine RS.pv (PV.neqT rfl rfl (by omega)) rfl ?_ | refine RS.nil ?_)
   exact ⟨congrArg Value.bool (decide_eq_false fun e => hl (by rw [e])).symm, rfl, rfl⟩
end Go.Proofs.YtckdkhhpjnefpaaGreatDoor
namespace Go.Proofs.YtckdkhhpjnefpaaGreatDoor
set_option maxHeartbeats 4000000
open Go Go.Eng
structure Rul where
 file : ByteArray
 line : Int
 terms : List Term
def RulIs (i : Imm) (l : List Value) (r : Rul) : Prop := ∃ ao cap, l = [.string r.file, .int .i64 r.line, .slice ao r.terms.length cap] ∧ Sl i (.slice ao r.terms.length cap) 4 r.terms.length (terms r.terms) ∧ r.terms.length ≤ 1024 ∧ smallL 1024 r.terms ∧ r.file.size ≤ 64
def RulesV (i : Imm) (v : Value) (rs : List Rul) : Prop := ∃ cs, Sl i v 3 rs.length cs ∧ (∀ k r, rs[k]? = some r → RulIs i (nth 3 cs k) r) ∧ rs.length ≤ 512 ∧ CapOk v
theorem RulesN.val {i : Imm} {v : Value} (h : RulesN i 512 v) : ∃ rs, RulesV i v rs := by
 obtain ⟨n, cs, h1, h2, h3, h4⟩ := h
 have hx : ∀ k : Fin n, ∃ r, RulIs i (nth 3 cs k) r := fun k => by
  obtain ⟨f, l, tv, e, hf, ts, hts, htn, hsm⟩ := h2 k k.2
  obtain ⟨ao, cap, rfl, _⟩ := id hts
  exact ⟨⟨f, l, ts⟩, ao, cap, e, hts, htn, hsm, hf⟩
 refine ⟨List.ofFn fun k => Classical.choose (hx k), cs, by rw [List.length_ofFn]; exact h1, fun k r hr => ?_, by rw [List.length_ofFn]; exact h3, h4⟩
 have hk : k < n := by have := (List.getElem?_eq_some_iff.1 hr).1; rwa [List.length_ofFn] at this
 have := Classical.choose_spec (hx ⟨k, hk⟩)
 rw [List.getElem?_ofFn] at hr
 simp [hk] at hr
 subst hr
 exact this
theorem RulesV.at {i : Imm} {v : Value} {rs : List Rul} {k : Nat} {r : Rul} (h : RulesV i v rs) (hk : rs[k]? = some r) :
 ∃ b o c t z cap ta tc, v = .slice (some ⟨b, o, none⟩) rs.length cap ∧ i.blk b = some (.cells (List.toArray c) t z) ∧ (∀ d u, [Value.string r.file, .int .i64 r.line, .slice ta r.terms.length tc][d]? = some u → c[o + ((k : Nat) : Int).toNat * 3 + d]? = some u) ∧ Sl i (.slice ta r.terms.length tc) 4 r.terms.length (terms r.terms) ∧ r.terms.length ≤ 1024 := by
 obtain ⟨cs, h1, h2, h3, h4⟩ := h
 obtain ⟨ta, tc, e, h5, h6, _⟩ := h2 k r hk
 obtain ⟨b, o, c, t, z, cap, g1, g2, g3, g4⟩ := Sl.nth h1 (List.getElem?_eq_some_iff.1 hk).1 (by omega)
 rw [e] at g4
 exact ⟨b, o, c, t, z, cap, ta, tc, g1, g2, g4, h5, h6⟩
def IsPre (e : Nat → Prop) (n k : Nat) : Prop := k ≤ n ∧ (∀ j, j < k → e j) ∧ (k = n ∨ ¬ e k)
theorem IsPre.uniq {e : Nat → Prop} {n k k' : Nat} (h : IsPre e n k) (h' : IsPre e n k') : k = k' := by
 obtain ⟨h1, h2, h3⟩ := h
 obtain ⟨g1, g2, g3⟩ := h'
 rcases Nat.lt_trichotomy k k' with hlt | heq | hgt
 · rcases h3 with h3 | h3
   · omega
   · exact absurd (g2 k hlt) h3
 · exact heq
 · rcases g3 with g3 | g3
   · omega
   · exact absurd (h2 k' hgt) g3
def eF (rs us : List Rul) (j : Nat) : Prop := rs[j]?.map (·.terms) = us[j]?.map (·.terms)
def eB (rs us : List Rul) (j : Nat) : Prop := rs[rs.length - 1 - j]?.map (·.terms) = us[us.length - 1 - j]?.map (·.terms)
def CommonV (rs us : List Rul) (v : Value) : Prop := ∃ a b : Nat, v = .tuple #[.int .i64 a, .int .i64 b] ∧ IsPre (eF rs us) (min rs.length us.length) a ∧ IsPre (eB rs us) (min rs.length us.length - a) b
theorem Common8_t (va vb : Value) (rs us : List Rul) (i : Imm) (L : SH) (ha : RulesV i va rs) (hb : RulesV i vb us) :
 FnS Tryz.prog 8 [va, vb] i L fun v i' L' => CommonV rs us v ∧ i' = i ∧ L' = L := by
 obtain ⟨_, ⟨aa, ac, rfl, _⟩, _, hr5, _⟩ := id ha
 obtain ⟨_, ⟨ba, bc, rfl, _⟩, _, hu5, _⟩ := id hb
 refine FnS.intro2 Tryz.func8 rfl Tryz.ntmps8 (by simp) Tryz.results8 ?_
 repeat' (first | refine RS.pv (PV.all tab_ok rfl) rfl ?_ | refine CS.seq ?_ | refine thenQ.normal ?_ | refine CS.region (id := 0) ?_ | refine RS.nil ?_)
 refine CS.region (id := 1) ?_
 refine RS.pv (PV.all tab_ok rfl) rfl ?_
 refine RS.nil ?_
 refine thenQ.normal ?_
 refine CS.cut [0, 1, 6] (fun vs i' L' => ∃ a : Nat, vs = [.slice aa rs.length ac, .slice ba us.length bc, .int .i64 (a : Int)] ∧ IsPre (eF rs us) (min rs.length us.length) a ∧ i' = i ∧ L' = L) ?_ ?_
 · repeat' (first | refine CS.block ?_)
   refine CS.loop [0, 1, 6] (fun m vs i' L' => ∃ a : Nat, m = rs.length - a ∧ vs = [.slice aa rs.length ac, .slice ba us.length bc, .int .i64 (a : Int)] ∧ a ≤ rs.length ∧ a ≤ us.length ∧ (∀ j, j < a → eF rs us j) ∧ i' = i ∧ L' = L) _ ⟨0, rfl, rfl, Nat.zero_le _, Nat.zero_le _, (fun j hj => absurd hj (by omega)), rfl, rfl⟩ ?_
   rintro m g vs i L hi ⟨a, rfl, rfl, har, hau, hpre, rfl, rfl⟩
   by_cases h1 : a < rs.length
   · by_cases h2 : a < us.length
     · obtain ⟨x, hx⟩ : ∃ x, rs[a]? = some x := ⟨_, List.getElem?_eq_getElem h1⟩
       obtain ⟨y, hy⟩ : ∃ y, us[a]? = some y := ⟨_, List.getElem?_eq_getElem h2⟩
       obtain ⟨b1, o1, c1, t1, z1, p1, ta1, tc1, e1, g1, q1, hs1, hn1⟩ := ha.at hx
       obtain ⟨b2, o2, c2, t2, z2, p2, ta2, tc2, e2, g2, q2, hs2, hn2⟩ := hb.at hy
       cases e1
       cases e2
       have hee : eF rs us a ↔ x.terms = y.terms := by unfold eF; rw [hx, hy]; simp
       repeat' (first | refine RS.pv (PV.all tab_ok rfl) rfl ?_ | refine QS.pv (PV.all tab_ok rfl) rfl ?_ | refine CS.seq ?_ | refine thenQ.normal ?_ | refine CS.cond_true rfl ?_ | refine CS.cond_false rfl ?_ | refine CS.skip ?_ | refine CS.block ?_ | refine CS.exit ?_ | refine thenQ.exit ?_ | refine blkQ.normal ?_ | refine blkQ.here ?_ | refine CS.region ?_ | refine CS.drawQ mix (by kernel_rfl) ?_ | refine QS.pv (PV.lenS tab_ok rfl rfl) rfl ?_ | refine QS.pv (PV.lssT rfl rfl (by omega)) rfl ?_ | refine QS.pv (PV.indexAddr tab_ok rfl rfl rfl (by omega)) rfl ?_ | refine QS.lv (LV.load1 tab_ok rfl (Has.imm g1) rfl (q1 2 _ rfl)) rfl ?_ | refine QS.lv (LV.load1 tab_ok rfl (Has.imm g2) rfl (q2 2 _ rfl)) rfl ?_ | refine QS.callB (p := x.terms = y.terms) ((SameTerms_t _ _ _ _ _ _ hs1 hs2 (by omega)).mono fun _ _ _ _ h => ⟨h.1, h.2.2⟩) rfl (by kernel_rfl) rfl (fun hxy => ?_) (fun hxy => ?_) | refine RS.pv (PV.add rfl rfl (by omega)) rfl ?_ | refine RS.nil ?_ | refine QS.nil ?_)
       · exact ⟨rs.length - (a + 1), by omega, a + 1, rfl, rfl, h1, h2, (fun j hj => by rcases Nat.lt_succ_iff_lt_or_eq.1 hj with hj | rfl; exact hpre j hj; exact hee.2 hxy), rfl, rfl⟩
       · exact ⟨a, rfl, ⟨by omega, hpre, .inr fun h => hxy (hee.1 h)⟩, rfl, rfl⟩
     · repeat' (first | refine QS.pv (PV.all tab_ok rfl) rfl ?_ | refine CS.seq ?_ | refine thenQ.normal ?_ | refine CS.cond_false rfl ?_ | refine CS.exit ?_ | refine thenQ.exit ?_ | refine blkQ.here ?_ | refine CS.drawQ mix (by kernel_rfl) ?_ | refine QS.pv (PV.lenS tab_ok rfl rfl) rfl ?_ | refine QS.pv (PV.lssT rfl rfl (by omega)) rfl ?_ | refine QS.pv (PV.lssF rfl rfl (by omega)) rfl ?_ | refine QS.nil ?_ | refine QS.skip rfl ?_)
       exact ⟨a, rfl, ⟨by omega, hpre, .inl (by omega)⟩, rfl, rfl⟩
   · repeat' (first | refine QS.pv (PV.all tab_ok rfl) rfl ?_ | refine CS.seq ?_ | refine thenQ.normal ?_ | refine CS.cond_false rfl ?_ | refine CS.exit ?_ | refine thenQ.exit ?_ | refine blkQ.here ?_ | refine CS.drawQ mix (by kernel_rfl) ?_ | refine QS.pv (PV.lenS tab_ok rfl rfl) rfl ?_ | refine QS.pv (PV.lssF rfl rfl (by omega)) rfl ?_ | refine QS.nil ?_ | refine QS.skip rfl ?_)
     exact ⟨a, rfl, ⟨by omega, hpre, .inl (by omega)⟩, rfl, rfl⟩
 rintro g vs i L hi ⟨a, rfl, hpa, rfl, rfl⟩
 have hal : a ≤ rs.length ∧ a ≤ us.length := by have := hpa.1; omega
 refine CS.seq ?_
 refine CS.region (id := 4) ?_
 refine RS.pv (PV.all tab_ok rfl) rfl ?_
 refine RS.nil ?_
 refine thenQ.normal ?_
 refine CS.cut [0, 1, 6, 7] (fun vs i' L' => ∃ b : Nat, vs = [.slice aa rs.length ac, .slice ba us.length bc, .int .i64 (a : Int), .int .i64 (b : Int)] ∧ IsPre (eB rs us) (min rs.length us.length - a) b ∧ i' = i ∧ L' = L) ?_ ?_
 · repeat' (first | refine CS.block ?_)
   refine CS.loop [0, 1, 6, 7] (fun m vs i' L' => ∃ b : Nat, m = rs.length - b ∧ vs = [.slice aa rs.length ac, .slice ba us.length bc, .int .i64 (a : Int), .int .i64 (b : Int)] ∧ a + b ≤ rs.length ∧ a + b ≤ us.length ∧ (∀ j, j < b → eB rs us j) ∧ i' = i ∧ L' = L) _ ⟨0, rfl, rfl, by omega, by omega, (fun j hj => absurd hj (by omega)), rfl, rfl⟩ ?_
   rintro m g vs i L hi ⟨b, rfl, rfl, har, hau, hpre, rfl, rfl⟩
   by_cases h1 : a + b < rs.length
   · by_cases h2 : a + b < us.length
     · obtain ⟨x, hx⟩ : ∃ x, rs[rs.length - 1 - b]? = some x := ⟨_, List.getElem?_eq_getElem (by omega)⟩
       obtain ⟨y, hy⟩ : ∃ y, us[us.length - 1 - b]? = some y := ⟨_, List.getElem?_eq_getElem (by omega)⟩
       obtain ⟨b1, o1, c1, t1, z1, p1, ta1, tc1, e1, g1, q1, hs1, hn1⟩ := ha.at hx
       obtain ⟨b2, o2, c2, t2, z2, p2, ta2, tc2, e2, g2, q2, hs2, hn2⟩ := hb.at hy
       cases e1
       cases e2
       rw [show (((rs.length - 1 - b : Nat) : Nat) : Int) = (rs.length : Int) - 1 - (b : Int) by omega] at q1
       rw [show (((us.length - 1 - b : Nat) : Nat) : Int) = (us.length : Int) - 1 - (b : Int) by omega] at q2
       have hee : eB rs us b ↔ x.terms = y.terms := by unfold eB; rw [hx, hy]; simp
       repeat' (first | refine RS.pv (PV.all tab_ok rfl) rfl ?_ | refine QS.pv (PV.all tab_ok rfl) rfl ?_ | refine CS.seq ?_ | refine thenQ.normal ?_ | refine CS.cond_true rfl ?_ | refine CS.cond_false rfl ?_ | refine CS.skip ?_ | refine CS.block ?_ | refine CS.exit ?_ | refine thenQ.exit ?_ | refine blkQ.normal ?_ | refine blkQ.here ?_ | refine CS.region ?_ | refine CS.drawQ mix (by kernel_rfl) ?_ | refine RS.pv (PV.add rfl rfl (by omega)) rfl ?_ | refine QS.pv (PV.add rfl rfl (by omega)) rfl ?_ | refine QS.pv (PV.lenS tab_ok rfl rfl) rfl ?_ | refine QS.pv (PV.lssT rfl rfl (by omega)) rfl ?_ | refine QS.pv (PV.sub rfl rfl (by omega)) rfl ?_ | refine QS.pv (PV.indexAddr tab_ok rfl rfl rfl (by omega)) rfl ?_ | refine QS.lv (LV.load1 tab_ok rfl (Has.imm g1) rfl (q1 2 _ rfl)) rfl ?_ | refine QS.lv (LV.load1 tab_ok rfl (Has.imm g2) rfl (q2 2 _ rfl)) rfl ?_ | refine QS.callB (p := x.terms = y.terms) ((SameTerms_t _ _ _ _ _ _ hs1 hs2 (by omega)).mono fun _ _ _ _ h => ⟨h.1, h.2.2⟩) rfl (by kernel_rfl) rfl (fun hxy => ?_) (fun hxy => ?_) | refine RS.nil ?_ | refine QS.nil ?_)
       · exact ⟨rs.length - (b + 1), by omega, b + 1, rfl, rfl, by omega, by omega, (fun j hj => by rcases Nat.lt_succ_iff_lt_or_eq.1 hj with hj | rfl; exact hpre j hj; exact hee.2 hxy), rfl, rfl⟩
       · exact ⟨b, rfl, ⟨by omega, hpre, .inr fun h => hxy (hee.1 h)⟩, rfl, rfl⟩
     · repeat' (first | refine QS.pv (PV.all tab_ok rfl) rfl ?_ | refine CS.seq ?_ | refine thenQ.normal ?_ | refine CS.cond_false rfl ?_ | refine CS.exit ?_ | refine thenQ.exit ?_ | refine blkQ.here ?_ | refine CS.drawQ mix (by kernel_rfl) ?_ | refine QS.pv (PV.add rfl rfl (by omega)) rfl ?_ | refine QS.pv (PV.lenS tab_ok rfl rfl) rfl ?_ | refine QS.pv (PV.lssT rfl rfl (by omega)) rfl ?_ | refine QS.pv (PV.lssF rfl rfl (by omega)) rfl ?_ | refine QS.nil ?_ | refine QS.skip rfl ?_)
       exact ⟨b, rfl, ⟨by omega, hpre, .inl (by omega)⟩, rfl, rfl⟩
   · repeat' (first | refine QS.pv (PV.all tab_ok rfl) rfl ?_ | refine CS.seq ?_ | refine thenQ.normal ?_ | refine CS.cond_false rfl ?_ | refine CS.exit ?_ | refine thenQ.exit ?_ | refine blkQ.here ?_ | refine CS.drawQ mix (by kernel_rfl) ?_ | refine QS.pv (PV.add rfl rfl (by omega)) rfl ?_ | refine QS.pv (PV.lenS tab_ok rfl rfl) rfl ?_ | refine QS.pv (PV.lssF rfl rfl (by omega)) rfl ?_ | refine QS.nil ?_ | refine QS.skip rfl ?_)
     exact ⟨b, rfl, ⟨by omega, hpre, .inl (by omega)⟩, rfl, rfl⟩
 rintro g vs i L hi ⟨b, rfl, hpb, rfl, rfl⟩
 repeat' (first | refine RS.pv (PV.all tab_ok rfl) rfl ?_ | refine CS.seq ?_ | refine thenQ.normal ?_ | refine CS.ret ?_ | refine retQ.ret ?_ | refine CS.region ?_ | refine RS.nil ?_)
 exact ⟨⟨a, b, rfl, hpa, hpb⟩, rfl, rfl⟩
end Go.Proofs.YtckdkhhpjnefpaaGreatDoor
namespace Go.Proofs.YtckdkhhpjnefpaaGreatDoor
set_option maxHeartbeats 4000000
open Go Go.Eng
theorem Equal_t (va vb : Value) (a b : List Term) (i : Imm) (L : SH) (ha : Sl i va 4 a.length (terms a)) (hb : Sl i vb 4 b.length (terms b)) (hn : a.length ≤ 9223372036854775806) :
 FnS Tryz.prog 101 [va, vb] i L fun v i' L' => v = .bool (decide (a = b)) ∧ i' = i ∧ L' = L := by
 obtain ⟨aa, ac, hva, _⟩ := id ha
 obtain ⟨ba, bc, hvb, _⟩ := id hb
 subst hva
 subst hvb
 refine FnS.intro1 Tryz.func101 rfl Tryz.ntmps101 (by simp) Tryz.results101 ?_
 by_cases hl : a.length = b.length
 · repeat' (first | refine RS.pv (PV.all tab_ok rfl) rfl ?_ | refine CS.seq ?_ | refine thenQ.normal ?_ | refine CS.cond_false rfl ?_ | refine CS.skip ?_ | refine CS.block ?_ | refine CS.region (id := 0) ?_ | refine CS.region (id := 1) ?_ | refine CS.region (id := 3) ?_ | refine RS.pv (PV.lenS tab_ok rfl rfl) rfl ?_ | refine RS.pv (PV.neqF rfl rfl (by omega)) rfl ?_ | refine RS.nil ?_)
   refine CS.loop [0, 1, 12, 13] (fun m vs i' L' => ∃ k : Nat, m = a.length - k ∧ k ≤ a.length ∧ (∀ j, j < k → a[j]? = b[j]?) ∧ vs = [.slice aa a.length ac, .slice ba b.length bc, .int .i64 (a.length : Int), .int .i64 (k : Int)] ∧ i' = i ∧ L' = L) a.length ⟨0, rfl, Nat.zero_le _, fun j hj => absurd hj (by omega), rfl, rfl, rfl⟩ ?_
   rintro m g vs i' L' hi ⟨k, rfl, hk, hpre, rfl, rfl, rfl⟩
   by_cases hlt : k < a.length
   · obtain ⟨x, hx⟩ : ∃ x, a[k]? = some x := ⟨_, List.getElem?_eq_getElem hlt⟩
     obtain ⟨y, hy⟩ : ∃ y, b[k]? = some y := ⟨_, List.getElem?_eq_getElem (by omega)⟩
     obtain ⟨b1, o1, c1, t1, z1, p1, e1, g1, q1⟩ := Sl.term ha hx
     obtain ⟨b2, o2, c2, t2, z2, p2, e2, g2, q2⟩ := Sl.term hb hy
     cases e1
     cases e2
     repeat' (first | refine RS.pv (PV.all tab_ok rfl) rfl ?_ | refine QS.pv (PV.all tab_ok rfl) rfl ?_ | refine CS.seq ?_ | refine thenQ.normal ?_ | refine CS.cond_true rfl ?_ | refine CS.cond_false rfl ?_ | refine CS.skip ?_ | refine CS.ret ?_ | refine thenQ.ret ?_ | refine blkQ.ret ?_ | refine retQ.ret ?_ | refine CS.block ?_ | refine blkQ.normal ?_ | refine CS.region (id := 4) ?_ | refine CS.region (id := 5) ?_ | refine CS.drawQ (id := 6) mix (by kernel_rfl) ?_ | refine CS.region (id := 7) ?_ | refine CS.region (id := 8) ?_ | refine RS.pv (PV.lssT rfl rfl (by omega)) rfl ?_ | refine QS.pv (PV.indexAddr tab_ok rfl rfl rfl (by omega)) rfl ?_ | refine QS.lv (LV.loadL tab_ok rfl (Has.imm g1) (l := termC x) rfl rfl rfl q1) rfl ?_ | refine QS.lv (LV.loadL tab_ok rfl (Has.imm g2) (l := termC y) rfl rfl rfl q2) rfl ?_ | refine QS.pvN (p := x = y) (by rw [← termC_eq]; exact PV.stneq tab_ok (by kernel_rfl) (by kernel_rfl) rfl rfl (by kernel_rfl)) rfl (fun h => ?_) (fun h => ?_) | refine RS.pv (PV.add rfl rfl (by omega)) rfl ?_ | refine RS.nil ?_ | refine QS.nil ?_)
     · exact ⟨a.length - (k + 1), by omega, k + 1, rfl, hlt, upto_succ hpre (by rw [hx, hy, h]), rfl, rfl, rfl⟩
     · refine ⟨congrArg Value.bool (decide_eq_false fun e => h ?_).symm, rfl, rfl⟩
       rw [e, hy] at hx
       cases hx; rfl
   · have : k = a.length := by omega
     subst this
     repeat' (first | refine RS.pv (PV.all tab_ok rfl) rfl ?_ | refine CS.seq ?_ | refine thenQ.normal ?_ | refine CS.cond_false rfl ?_ | refine CS.ret ?_ | refine retQ.ret ?_ | refine CS.exit ?_ | refine thenQ.exit ?_ | refine blkQ.here ?_ | refine CS.region (id := 4) ?_ | refine CS.region (id := 9) ?_ | refine RS.pv (PV.lssF rfl rfl (by omega)) rfl ?_ | refine RS.nil ?_)
     refine ⟨congrArg Value.bool (decide_eq_true ?_).symm, rfl, rfl⟩
     refine List.ext_getElem? fun j => ?_
     by_cases hj : j < a.length
     · exact hpre j hj
     · rw [List.getElem?_eq_none (by omega), List.getElem?_eq_none (by omega)]
 · repeat' (first | refine RS.pv (PV.all tab_ok rfl) rfl ?_ | refine CS.seq ?_ | refine thenQ.normal ?_ | refine CS.cond_true rfl ?_ | refine CS.ret ?_ | refine thenQ.ret ?_ | refine retQ.ret ?_ | refine CS.region (id := 0) ?_ | refine CS.region (id := 1) ?_ | refine CS.region (id := 2) ?_ | refine RS.pv (PV.lenS tab_ok rfl rfl) rfl ?_ | refine RS.pv (PV.neqT rfl rfl (by omega)) rfl ?_ | refine RS.nil ?_)
   exact ⟨congrArg Value.bool (decide_eq_false fun e => hl (by rw [e])).symm, rfl, rfl⟩
theorem alike_t (f1 f2 : ByteArray) (l1 l2 : Int) (a1 a2 : Option Addr) (c1 c2 : Nat) (ta tb : List Term) (i : Imm) (L : SH) (ha : Sl i (.slice a1 ta.length c1) 4 ta.length (terms ta)) (hb : Sl i (.slice a2 tb.length c2) 4 tb.length (terms tb)) (hn : ta.length ≤ 1024) :
 FnS Tryz.prog 56 [.agg #[.string f1, .int .i64 l1, .slice a1 ta.length c1], .agg #[.string f2, .int .i64 l2, .slice a2 tb.length c2]] i L fun v i' L' => v = .bool (decide (ta = tb)) ∧ L' = L := by
 refine tuple2 ?_
 refine FnS.intro1 Tryz.func56 rfl Tryz.ntmps56 (by simp) Tryz.results56 ?_
 repeat' (first | refine RS.pv (PV.all tab_ok rfl) rfl ?_ | refine CS.seq ?_ | refine thenQ.normal ?_ | refine CS.ret ?_ | refine retQ.ret ?_ | refine CS.region ?_ | refine RS.box rfl rfl (fun b1 => ?_) | refine RS.lv (LV.load tab_ok rfl (Has.own 1 rfl) rfl) rfl ?_ | refine RS.lv (LV.load tab_ok rfl (Has.own 0 rfl) rfl) rfl ?_ | (refine RS.call (Equal_t _ _ ta tb _ _ ha hb (by omega)) rfl (by kernel_rfl) rfl ?_; rintro _ i _ - ⟨rfl, rfl, rfl⟩) | refine RS.nil ?_)
 exact ⟨[_, _], rfl, rfl⟩
end Go.Proofs.YtckdkhhpjnefpaaGreatDoor
namespace Go.Proofs.YtckdkhhpjnefpaaGreatDoor
set_option maxHeartbeats 4000000
open Go Go.Eng
theorem fwd_t (v : Value) (ao : Option Addr) (n cap : Nat) (hv : v = .slice ao n cap) (i : Imm) (L : SH) :
 FnS Tryz.prog 24 [v] i L fun r i' L' => (∃ bx, r = .func (.func 25) #[] #[.pointer (some ⟨bx, 0, none⟩)] ∧ i'.blk bx = some (.cells [v].toArray 26 (0, 0))) ∧ L' = L := by
 subst hv
 refine FnS.intro1 Tryz.func24 rfl Tryz.ntmps24 (by simp) Tryz.results24 ?_
 repeat' (first | refine RS.pv (PV.all tab_ok rfl) rfl ?_ | refine CS.seq ?_ | refine thenQ.normal ?_ | refine CS.ret ?_ | refine retQ.ret ?_ | refine CS.region ?_ | (refine RS.box rfl rfl (fun bx => ?_); refine RS.freeze (fun i hi gx => ?_)) | refine RS.pv (PV.makeFunc) rfl ?_ | refine RS.nil ?_)
 exact ⟨⟨bx, rfl, gx⟩, rfl⟩
theorem bwd_t (v : Value) (ao : Option Addr) (n cap : Nat) (hv : v = .slice ao n cap) (i : Imm) (L : SH) :
 FnS Tryz.prog 26 [v] i L fun r i' L' => (∃ bx, r = .func (.func 27) #[] #[.pointer (some ⟨bx, 0, none⟩)] ∧ i'.blk bx = some (.cells [v].toArray 26 (0, 0))) ∧ L' = L := by
 subst hv
 refine FnS.intro1 Tryz.func26 rfl Tryz.ntmps26 (by simp) Tryz.results26 ?_
 repeat' (first | refine RS.pv (PV.all tab_ok rfl) rfl ?_ | refine CS.seq ?_ | refine thenQ.normal ?_ | refine CS.ret ?_ | refine retQ.ret ?_ | refine CS.region ?_ | (refine RS.box rfl rfl (fun bx => ?_); refine RS.freeze (fun i hi gx => ?_)) | refine RS.pv (PV.makeFunc) rfl ?_ | refine RS.nil ?_)
 exact ⟨⟨bx, rfl, gx⟩, rfl⟩
def RulA (i : Imm) (v : Value) (ts : List Term) : Prop := ∃ f l ao cap, v = .agg #[.string f, .int .i64 l, .slice ao ts.length cap] ∧ Sl i (.slice ao ts.length cap) 4 ts.length (terms ts) ∧ ts.length ≤ 1024
theorem RulesV.le {i i' : Imm} {v : Value} {rs : List Rul} (h : RulesV i v rs) (hi : i.le i') : RulesV i' v rs := by
 obtain ⟨cs, h1, h2, h3, h4⟩ := h
 refine ⟨cs, h1.le hi, fun k r hk => ?_, h3, h4⟩
 obtain ⟨ta, tc, e, h5, h6⟩ := h2 k r hk
 exact ⟨ta, tc, e, h5.le hi, h6⟩
theorem at25_t (v : Value) (rs : List Rul) (k : Nat) (r : Rul) (bx : Nat) (i : Imm) (L : SH) (hv : RulesV i v rs) (hk : rs[k]? = some r) (gx : i.blk bx = some (.cells [v].toArray 26 (0, 0))) :
 FnS Tryz.prog 25 [.int .i64 (k : Int), .pointer (some ⟨bx, 0, none⟩)] i L fun v i' L' => RulA i' v r.terms ∧ L' = L := by
 refine FnS.drop ?_
 obtain ⟨b1, o1, c1, t1, z1, cap, ta, tc, rfl, g1, q1, hs1, hn1⟩ := hv.at hk
 have hlt := (List.getElem?_eq_some_iff.1 hk).1
 have h512 : rs.length ≤ 512 := by obtain ⟨_, _, _, h, _⟩ := hv; exact h
 refine FnS.introC tab_ok Tryz.func25 rfl Tryz.ntmps25 (by simp) Tryz.results25 ?_
 repeat' (first | refine RS.pv (PV.all tab_ok rfl) rfl ?_ | refine CS.seq ?_ | refine thenQ.normal ?_ | refine CS.ret ?_ | refine retQ.ret ?_ | refine CS.region ?_ | refine RS.alloc tab_ok rfl rfl (fun br => ?_) | refine RS.lv (LV.load tab_ok rfl (Has.imm gx) rfl) rfl ?_ | refine RS.pv (PV.indexAddr tab_ok rfl rfl rfl (by omega)) rfl ?_ | refine RS.lv (LV.loadL (l := [_, _, _]) tab_ok rfl (Has.imm g1) rfl rfl rfl q1) rfl ?_ | refine RS.store (k := 0) tab_ok rfl rfl rfl rfl rfl rfl rfl rfl ?_ | refine RS.nil ?_)
 exact ⟨_, _, _, _, _, _, rfl, Has.own 0 rfl, rfl, [_], ⟨_, _, _, _, rfl, hs1, hn1⟩, rfl⟩
theorem at27_t (v : Value) (rs : List Rul) (k : Nat) (r : Rul) (bx : Nat) (i : Imm) (L : SH) (hv : RulesV i v rs) (hlt : k < rs.length) (hk : rs[rs.length - 1 - k]? = some r) (gx : i.blk bx = some (.cells [v].toArray 26 (0, 0))) :
 FnS Tryz.prog 27 [.int .i64 (k : Int), .pointer (some ⟨bx, 0, none⟩)] i L fun v i' L' => RulA i' v r.terms ∧ L' = L := by
 refine FnS.drop ?_
 obtain ⟨b1, o1, c1, t1, z1, cap, ta, tc, rfl, g1, q1, hs1, hn1⟩ := hv.at hk
 rw [show (((rs.length - 1 - k : Nat) : Nat) : Int) = (rs.length : Int) - 1 - (k : Int) by omega] at q1
 have h512 : rs.length ≤ 512 := by obtain ⟨_, _, _, h, _⟩ := hv; exact h
 refine FnS.introC tab_ok Tryz.func27 rfl Tryz.ntmps27 (by simp) Tryz.results27 ?_
 repeat' (first | refine RS.pv (PV.all tab_ok rfl) rfl ?_ | refine CS.seq ?_ | refine thenQ.normal ?_ | refine CS.ret ?_ | refine retQ.ret ?_ | refine CS.region ?_ | refine RS.alloc tab_ok rfl rfl (fun br => ?_) | refine RS.lv (LV.load tab_ok rfl (Has.imm gx) rfl) rfl ?_ | refine RS.pv (PV.lenS tab_ok rfl rfl) rfl ?_ | refine RS.pv (PV.sub rfl rfl (by omega)) rfl ?_ | refine RS.pv (PV.indexAddr tab_ok rfl rfl rfl (by omega)) rfl ?_ | refine RS.lv (LV.loadL (l := [_, _, _]) tab_ok rfl (Has.imm g1) rfl rfl rfl q1) rfl ?_ | refine RS.store (k := 0) tab_ok rfl rfl rfl rfl rfl rfl rfl rfl ?_ | refine RS.nil ?_)
 exact ⟨_, _, _, _, _, _, rfl, Has.own 0 rfl, rfl, [_], ⟨_, _, _, _, rfl, hs1, hn1⟩, rfl⟩
theorem count28_t (n : Nat) (ga gb : FuncId) (pa pb : Value) (tA tB : Nat → List Term) (i : Imm) (L : SH) (hn : n ≤ 1000) (hga : fnOk Tryz.prog ga = true) (hgb : fnOk Tryz.prog gb = true)
 (hA : ∀ (k : Nat) (i' : Imm) (L' : SH), k < n → i.le i' → FnS Tryz.prog ga [.int .i64 (k : Int), pa] i' L' fun v i'' L'' => RulA i'' v (tA k) ∧ L'' = L')
 (hB : ∀ (k : Nat) (i' : Imm) (L' : SH), k < n → i.le i' → FnS Tryz.prog gb [.int .i64 (k : Int), pb] i' L' fun v i'' L'' => RulA i'' v (tB k) ∧ L'' = L') :
 FnS Tryz.prog 28 [.int .i64 (n : Int), .func (.func ga) #[] #[pa], .func (.func gb) #[] #[pb]] i L fun v i' L' => (∃ k : Nat, v = .int .i64 (k : Int) ∧ IsPre (fun j => tA j = tB j) n k) ∧ L' = L := by
 refine FnS.intro1 Tryz.func28 rfl Tryz.ntmps28 (by simp) Tryz.results28 ?_
 repeat' (first | refine RS.pv (PV.all tab_ok rfl) rfl ?_ | refine CS.seq ?_ | refine thenQ.normal ?_ | refine CS.region (id := 0) ?_ | refine RS.nil ?_)
 refine CS.region (id := 1) ?_
 refine RS.pv (PV.all tab_ok rfl) rfl ?_
 refine RS.nil ?_
 refine thenQ.normal ?_
 refine CS.cut [7] (fun vs i' L' => ∃ k : Nat, vs = [.int .i64 (k : Int)] ∧ IsPre (fun j => tA j = tB j) n k ∧ L' = L) ?_ ?_
 · repeat' (first | refine CS.block ?_)
   refine CS.loop [0, 1, 2, 7] (fun m vs i' L' => ∃ k : Nat, m = n - k ∧ k ≤ n ∧ vs = [.int .i64 (n : Int), .func (.func ga) #[] #[pa], .func (.func gb) #[] #[pb], .int .i64 (k : Int)] ∧ (∀ j, j < k → tA j = tB j) ∧ i.le i' ∧ L' = L) _ ⟨0, rfl, Nat.zero_le _, rfl, (fun j hj => absurd hj (by omega)), Imm.le.refl _, rfl⟩ ?_
   rintro m g vs i2 L hi2 ⟨k, rfl, hk, rfl, hpre, hle, rfl⟩
   by_cases hlt : k < n
   · repeat' (first | refine CS.seq ?_)
     refine CS.region (id := 2) ?_
     iterate 2 refine RS.pv (PV.all tab_ok rfl) rfl ?_
     (refine RS.pv (PV.lssT rfl rfl (by omega)) rfl ?_)
     (all_goals refine RS.pv (PV.all tab_ok rfl) rfl ?_)
     (all_goals (refine RS.pv (PV.all tab_ok rfl) rfl ?_))
     (all_goals (refine RS.pv (PV.all tab_ok rfl) rfl ?_))
     refine RS.callV (hA k _ _ hlt hle) rfl rfl hga rfl ?_
     rintro _ i3 L hi3 ⟨⟨f1, l1, a1, c1, rfl, hs1, hn1⟩, rfl⟩
     (refine RS.pv (PV.all tab_ok rfl) rfl ?_)
     (refine RS.pv (PV.all tab_ok rfl) rfl ?_)
     refine RS.callV (hB k _ _ hlt (hle.trans hi3)) rfl rfl hgb rfl ?_
     rintro _ i4 L hi4 ⟨⟨f2, l2, a2, c2, rfl, hs2, hn2⟩, rfl⟩
     refine RS.call (alike_t _ _ _ _ _ _ _ _ (tA k) (tB k) _ _ (hs1.le hi4) hs2 hn1) rfl (by kernel_rfl) rfl ?_
     rintro _ i5 L hi5 ⟨rfl, rfl⟩
     replace hle := ((hle.trans hi3).trans hi4).trans hi5
     by_cases hab : tA k = tB k
     · rw [decide_eq_true hab]
       refine RS.pv (PV.all tab_ok rfl) rfl ?_
       refine RS.nil ?_
       repeat' (first | refine RS.pv (PV.all tab_ok rfl) rfl ?_ | refine thenQ.normal ?_ | refine CS.cond_true rfl ?_ | refine CS.skip ?_ | refine CS.block ?_ | refine blkQ.normal ?_ | refine CS.region ?_ | refine RS.pv (PV.add rfl rfl (by omega)) rfl ?_ | refine RS.nil ?_)
       exact ⟨n - (k + 1), by omega, k + 1, rfl, hlt, rfl, (fun j hj => by rcases Nat.lt_succ_iff_lt_or_eq.1 hj with hj | rfl; exact hpre j hj; exact hab), hle, rfl⟩
     · rw [decide_eq_false hab]
       refine RS.pv (PV.all tab_ok rfl) rfl ?_
       refine RS.nil ?_
       repeat' (first | refine thenQ.normal ?_ | refine CS.cond_false rfl ?_ | refine CS.exit ?_ | refine thenQ.exit ?_ | refine blkQ.here ?_)
       exact ⟨k, rfl, ⟨hk, hpre, .inr hab⟩, rfl⟩
   · repeat' (first | refine RS.pv (PV.all tab_ok rfl) rfl ?_ | refine CS.seq ?_ | refine thenQ.normal ?_ | refine CS.cond_false rfl ?_ | refine CS.exit ?_ | refine thenQ.exit ?_ | refine blkQ.here ?_ | refine CS.region ?_ | refine RS.pv (PV.lssF rfl rfl (by omega)) rfl ?_ | refine RS.nil ?_ | refine RS.skip rfl ?_)
     exact ⟨k, rfl, ⟨hk, hpre, .inl (by omega)⟩, rfl⟩
 rintro g vs i L hi ⟨k, rfl, hp, rfl⟩
 repeat' (first | refine RS.pv (PV.all tab_ok rfl) rfl ?_ | refine CS.seq ?_ | refine thenQ.normal ?_ | refine CS.ret ?_ | refine retQ.ret ?_ | refine CS.region ?_ | refine RS.nil ?_)
 exact ⟨⟨k, rfl, hp⟩, rfl⟩
theorem IsPre.congr {e e' : Nat → Prop} {n k : Nat} (h : IsPre e n k) (hc : ∀ j, j < n → (e j ↔ e' j)) : IsPre e' n k := by
 obtain ⟨h1, h2, h3⟩ := h
 refine ⟨h1, fun j hj => (hc j (by omega)).1 (h2 j hj), ?_⟩
 rcases h3 with h3 | h3
 · exact .inl h3
 · by_cases hk : k < n
   · exact .inr fun h => h3 ((hc k hk).2 h)
   · exact .inl (by omega)
def tF (rs : List Rul) (j : Nat) : List Term := (rs[j]?.map (·.terms)).getD []
theorem tF_at {rs : List Rul} {j : Nat} (h : j < rs.length) : ∃ r, rs[j]? = some r ∧ tF rs j = r.terms := ⟨_, List.getElem?_eq_getElem h, by simp [tF, List.getElem?_eq_getElem h]⟩
theorem eF_iff {rs us : List Rul} {j k : Nat} (h : j < rs.length) (h' : k < us.length) : (rs[j]?.map (·.terms) = us[k]?.map (·.terms)) ↔ tF rs j = tF us k := by
 obtain ⟨r, h1, h2⟩ := tF_at h
 obtain ⟨u, h3, h4⟩ := tF_at h'
 rw [h1, h3, h2, h4]; simp
theorem Common7_t (va vb : Value) (rs us : List Rul) (i : Imm) (L : SH) (ha : RulesV i va rs) (hb : RulesV i vb us) :
 FnS Tryz.prog 7 [va, vb] i L fun v i' L' => CommonV rs us v ∧ L' = L := by
 obtain ⟨_, ⟨aa, ac, rfl, _⟩, _, hr5, _⟩ := id ha
 obtain ⟨_, ⟨ba, bc, rfl, _⟩, _, hu5, _⟩ := id hb
 have hmin : min (rs.length : Int) (us.length : Int) = ((min rs.length us.length : Nat) : Int) := by omega
 refine FnS.intro2 Tryz.func7 rfl Tryz.ntmps7 (by simp) Tryz.results7 ?_
 repeat' (first | refine RS.pv (PV.all tab_ok rfl) rfl ?_ | refine CS.seq ?_ | refine thenQ.normal ?_ | refine CS.region (id := 0) ?_ | refine CS.region (id := 1) ?_ | refine CS.region (id := 2) ?_ | refine CS.region (id := 3) ?_ | refine RS.pv (PV.lenS tab_ok rfl rfl) rfl ?_ | refine RS.pv (PV.minI rfl rfl) rfl ?_ | refine RS.nil ?_)
 refine CS.region (id := 4) ?_
 iterate 3 refine RS.pv (PV.all tab_ok rfl) rfl ?_
 refine RS.callV (fwd_t _ _ _ _ rfl _ _) rfl rfl (by kernel_rfl) rfl ?_
 rintro _ i L hi ⟨⟨bx, rfl, gx⟩, rfl⟩
 replace ha := ha.le hi
 replace hb := hb.le hi
 iterate 2 refine RS.pv (PV.all tab_ok rfl) rfl ?_
 refine RS.callV (fwd_t _ _ _ _ rfl _ _) rfl rfl (by kernel_rfl) rfl ?_
 rintro _ i L hi ⟨⟨by1, rfl, gy⟩, rfl⟩
 replace ha := ha.le hi
 replace hb := hb.le hi
 replace gx := hi.blk _ _ gx
 refine RS.call (vs := [.int .i64 ((min rs.length us.length : Nat) : Int), .func (.func 25) #[] #[.pointer (some ⟨bx, 0, none⟩)], .func (.func 25) #[] #[.pointer (some ⟨by1, 0, none⟩)]]) (count28_t (min rs.length us.length) 25 25 _ _ (tF rs) (tF us) _ _ (by omega) (by kernel_rfl) (by kernel_rfl)
  (fun k i' L' hk hi' => by obtain ⟨r, h1, h2⟩ := tF_at (rs := rs) (j := k) (by omega); rw [h2]; exact at25_t _ rs k r bx i' L' (ha.le hi') h1 (hi'.blk _ _ gx))
  (fun k i' L' hk hi' => by obtain ⟨r, h1, h2⟩ := tF_at (rs := us) (j := k) (by omega); rw [h2]; exact at25_t _ us k r by1 i' L' (hb.le hi') h1 (hi'.blk _ _ gy))) rfl (by kernel_rfl) (by rw [← hmin]; rfl) ?_
 rintro _ i L hi ⟨⟨a, rfl, hpa⟩, rfl⟩
 replace ha := ha.le hi
 replace hb := hb.le hi
 refine RS.pv (PV.all tab_ok rfl) rfl ?_
 refine RS.nil ?_
 refine thenQ.normal ?_
 refine CS.seq ?_
 refine CS.region (id := 5) ?_
 have hal : a ≤ min rs.length us.length := hpa.1
 have hmin2 : min (rs.length : Int) (us.length : Int) - (a : Int) = ((min rs.length us.length - a : Nat) : Int) := by omega
 iterate 3 refine RS.pv (PV.all tab_ok rfl) rfl ?_
 refine RS.pv (PV.sub rfl rfl (by omega)) rfl ?_
 iterate 2 refine RS.pv (PV.all tab_ok rfl) rfl ?_
 refine RS.callV (bwd_t _ _ _ _ rfl _ _) rfl rfl (by kernel_rfl) rfl ?_
 rintro _ i L hi ⟨⟨bz, rfl, gz⟩, rfl⟩
 replace ha := ha.le hi
 replace hb := hb.le hi
 iterate 2 refine RS.pv (PV.all tab_ok rfl) rfl ?_
 refine RS.callV (bwd_t _ _ _ _ rfl _ _) rfl rfl (by kernel_rfl) rfl ?_
 rintro _ i L hi ⟨⟨bw, rfl, gw⟩, rfl⟩
 replace ha := ha.le hi
 replace hb := hb.le hi
 replace gz := hi.blk _ _ gz
 refine RS.call (vs := [.int .i64 ((min rs.length us.length - a : Nat) : Int), .func (.func 27) #[] #[.pointer (some ⟨bz, 0, none⟩)], .func (.func 27) #[] #[.pointer (some ⟨bw, 0, none⟩)]]) (count28_t (min rs.length us.length - a) 27 27 _ _ (fun j => tF rs (rs.length - 1 - j)) (fun j => tF us (us.length - 1 - j)) _ _ (by omega) (by kernel_rfl) (by kernel_rfl)
  (fun k i' L' hk hi' => by obtain ⟨r, h1, h2⟩ := tF_at (rs := rs) (j := rs.length - 1 - k) (by omega); simp only [h2]; exact at27_t _ rs k r bz i' L' (ha.le hi') (by omega) h1 (hi'.blk _ _ gz))
  (fun k i' L' hk hi' => by obtain ⟨r, h1, h2⟩ := tF_at (rs := us) (j := us.length - 1 - k) (by omega); simp only [h2]; exact at27_t _ us k r bw i' L' (hb.le hi') (by omega) h1 (hi'.blk _ _ gw))) rfl (by kernel_rfl) (by rw [← hmin2]; rfl) ?_
 rintro _ i L hi ⟨⟨b, rfl, hpb⟩, rfl⟩
 iterate 2 refine RS.pv (PV.all tab_ok rfl) rfl ?_
 refine RS.nil ?_
 repeat' (first | refine thenQ.normal ?_ | refine CS.ret ?_ | refine retQ.ret ?_)
 exact ⟨⟨a, b, rfl, hpa.congr fun j hj => (eF_iff (by omega) (by omega)).symm, hpb.congr fun j hj => (eF_iff (by omega) (by omega)).symm⟩, rfl⟩
end Go.Proofs.YtckdkhhpjnefpaaGreatDoor
namespace Go.Eng
open Go
section
variable {P : Program} {n : Nat} {f : Fr} {dst : Option Nat} {ty : TypeId} {pos : String} {aft : Array Edge} {gd : Option (Nat × Bool)} {T : Tab}
theorem PV.sliceLHA (hT : T.ok P) {t sz l c j m : Nat} {ao : Option Addr} {x y z : Operand} {k k2 : IntKind} (hx : ev n f x = .slice ao l c) (hy : ev n f y = .int k (j : Int)) (hz : ev n f z = .int k2 (m : Int)) (hs : elSz T t = some sz) (ha : (ao = none ∧ l = 0 ∧ c = 0) ∨ ∃ g, ao = some ⟨g, 0, none⟩) (h : j ≤ m) (h2 : m ≤ c) :
 PV P n f ⟨dst, .slice t x (some y) (some z) none, ty, pos, aft, gd⟩ (.slice (tailA ao c j sz) (m - j) (c - j)) := by
 unfold PV; intro w
 obtain ⟨e, i, z', x', h1, h2', h3, h4, _⟩ := elSz_ok hT hs
 have hj : (0 : Int) ≤ (j : Int) ∧ (j : Int) ≤ (m : Int) := by omega
 have hm : (0 : Int) ≤ (m : Int) ∧ (m : Int) ≤ (c : Int) := by omega
 rcases ha with ⟨rfl, rfl, rfl⟩ | ⟨g, rfl⟩
 · have : j = 0 := by omega
   subst this
   have : m = 0 := by omega
   subst this
   simp [execOp, hx, hy, hz, Instr.sliceAt, Instr.slice, Instr.sliceBounds, Instr.sliceBound, asIntOf, run_underlying h1, sizeOf, run_info h2', tailA]
 · by_cases hc : c = j
   · simp [execOp, hx, hy, hz, Instr.sliceAt, Instr.slice, Instr.sliceBounds, Instr.sliceBound, asIntOf, run_underlying h1, hj, hm, sizeOf, run_info h2', hc, tailA, h]
     omega
   · simp [execOp, hx, hy, hz, Instr.sliceAt, Instr.slice, Instr.sliceBounds, Instr.sliceBound, asIntOf, run_underlying h1, hj, hm, sizeOf, run_info h2', hc, h3, tailA, Addr.add_none, h]
     try omega
end
end Go.Eng
namespace Go.Proofs.YtckdkhhpjnefpaaGreatDoor
set_option maxHeartbeats 4000000
open Go Go.Eng
def RVc (i : Imm) (cs : List Value) (qs : List Rul) : Prop := cs.length = qs.length * 3 ∧ ∀ k r, qs[k]? = some r → RulIs i (nth 3 cs k) r
theorem RulIs.le {i i' : Imm} {l : List Value} {r : Rul} (h : RulIs i l r) (hi : i.le i') : RulIs i' l r := by
 obtain ⟨ta, tc, e, h5, h6⟩ := h
 exact ⟨ta, tc, e, h5.le hi, h6⟩
theorem RVc.le {i i' : Imm} {cs : List Value} {qs : List Rul} (h : RVc i cs qs) (hi : i.le i') : RVc i' cs qs := ⟨h.1, fun k r hk => (h.2 k r hk).le hi⟩
theorem RVc.app {i : Imm} {cs ds : List Value} {qs ps : List Rul} (h : RVc i cs qs) (h2 : RVc i ds ps) : RVc i (cs ++ ds) (qs ++ ps) := by
 refine ⟨by rw [List.length_append, List.length_append, h.1, h2.1, Nat.add_mul], fun k r hk => ?_⟩
 by_cases e : k < qs.length
 · rw [nth_left h.1 e]
   rw [List.getElem?_append_left e] at hk
   exact h.2 k r hk
 · rw [List.getElem?_append_right (by omega)] at hk
   have e2 : nth 3 (cs ++ ds) k = nth 3 ds (k - qs.length) := by
    unfold nth
    rw [show k * 3 = cs.length + (k - qs.length) * 3 by rw [h.1]; omega, List.drop_length_add_append]
   rw [e2]; exact h2.2 _ r hk
theorem RVc.sub {i : Imm} {cs : List Value} {qs : List Rul} {a m : Nat} (h : RVc i cs qs) (h1 : a ≤ m) (h2 : m ≤ qs.length) : RVc i ((cs.take (m * 3)).drop (a * 3)) ((qs.take m).drop a) := by
 have hl := h.1
 refine ⟨by simp; omega, fun k r hk => ?_⟩
 have hk2 : a + k < m := by
  have := (List.getElem?_eq_some_iff.1 hk).1
  simp at this; omega
 rw [List.getElem?_drop, List.getElem?_take_of_lt hk2] at hk
 have e2 : nth 3 ((cs.take (m * 3)).drop (a * 3)) k = nth 3 cs (a + k) := by
  unfold nth
  rw [List.drop_drop, List.drop_take, List.take_take]
  have e3 : a * 3 + k * 3 = (a + k) * 3 := by omega
  rw [e3]
  congr 1; omega
 rw [e2]; exact h.2 _ r hk
theorem RVc.one {i : Imm} {cs : List Value} {qs : List Rul} (h : RVc i cs qs) : ∀ c ∈ cs, c.oneCell' = true := by
 refine All.cells (R := fun l => ∃ r, RulIs i l r) (n := qs.length) h.1 (fun k hk => ⟨_, h.2 k _ (List.getElem?_eq_getElem hk)⟩) ?_
 rintro l ⟨r, ta, tc, rfl, _⟩
 exact allOne rfl
def diffL (rs us : List Rul) (a b : Nat) : List Rul := (rs.take (rs.length - b)).drop a ++ (us.take (us.length - b)).drop a
theorem RulesV.open {i : Imm} {v : Value} {rs : List Rul} (h : RulesV i v rs) : ∃ ao cap cs, v = .slice ao rs.length cap ∧ Sl i (.slice ao rs.length cap) 3 rs.length cs ∧ RVc i cs rs ∧ rs.length ≤ 512 ∧ rs.length ≤ cap ∧ ((ao = none ∧ rs.length = 0 ∧ cap = 0) ∨ ∃ g, ao = some ⟨g, 0, none⟩) := by
 obtain ⟨cs, h1, h2, h3, ⟨ao, n, cap, rfl, h4, h5⟩⟩ := h
 obtain ⟨_, _, e, hl, _⟩ := id h1
 cases e
 exact ⟨ao, cap, cs, rfl, h1, ⟨hl, h2⟩, h3, h4, h5⟩
theorem Changed11_t (va vb : Value) (rs us : List Rul) (i : Imm) (L : SH) (ha : RulesV i va rs) (hb : RulesV i vb us) :
 FnS Tryz.prog 11 [va, vb] i L fun v i' L' => (∃ (a b : Nat) (cs : List Value), IsPre (eF rs us) (min rs.length us.length) a ∧ IsPre (eB rs us) (min rs.length us.length - a) b ∧ Sl i' v 3 (diffL rs us a b).length cs ∧ RVc i' cs (diffL rs us a b)) ∧ L' = L := by
 obtain ⟨aa, ac, ca, rfl, hsa, hva, ha5, hac, haa⟩ := ha.open
 obtain ⟨ba, bc, cb, rfl, hsb, hvb, hb5, hbc, hba⟩ := hb.open
 refine FnS.intro1 Tryz.func11 rfl Tryz.ntmps11 (by simp) Tryz.results11 ?_
 repeat' (first | refine RS.pv (PV.all tab_ok rfl) rfl ?_ | refine CS.seq ?_ | refine thenQ.normal ?_ | refine CS.region (id := 0) ?_ | refine CS.region (id := 1) ?_ | refine CS.region (id := 2) ?_ | (refine RS.call (Common8_t _ _ rs us _ _ ha hb) rfl (by kernel_rfl) rfl ?_; rintro _ i L - ⟨⟨a, b, rfl, hpa, hpb⟩, rfl, rfl⟩) | refine RS.nil ?_)
 have h1 := hpa.1
 have h2 := hpb.1
 have sa := Sl.dropS (k := a) (Sl.takeS (k := rs.length - b) hsa (by omega)) ⟨_, _, _, rfl, by omega, haa.elim (fun h => .inl ⟨h.1, by omega, h.2.2⟩) .inr⟩ (by omega)
 have sb := Sl.dropS (k := a) (Sl.takeS (k := us.length - b) hsb (by omega)) ⟨_, _, _, rfl, by omega, hba.elim (fun h => .inl ⟨h.1, by omega, h.2.2⟩) .inr⟩ (by omega)
 have ra := hva.sub (a := a) (m := rs.length - b) (by omega) (by omega)
 have rb := hvb.sub (a := a) (m := us.length - b) (by omega) (by omega)
 refine CS.region (id := 3) ?_
 iterate 4 refine RS.pv (PV.all tab_ok rfl) rfl ?_
 (refine RS.pv (PV.lenS tab_ok rfl rfl) rfl ?_)
 refine RS.pv (PV.all tab_ok rfl) rfl ?_
 refine RS.pv (PV.sub rfl rfl (by omega)) rfl ?_
 refine RS.pv (PV.sliceLHA (j := a) (m := rs.length - b) tab_ok rfl rfl (by show Value.int IntKind.i64 ((rs.length : Int) - (b : Int)) = _; congr 1; omega) rfl haa (by omega) (by omega)) rfl ?_
 refine RS.op (OpS.appC (O := []) [] tab_ok (sz := 3) (bytes := 48) (k := 0) (m := rs.length - b - a) rfl rfl (SlO.nil 52 3) (sa.rd _) ⟨_, rfl, rfl⟩ ⟨_, rfl, rfl, rfl⟩ (by omega) ra.one (by omega) (by omega)) rfl ?_
 rintro _ i2 _ hi2 ⟨O', ⟨ao', cap', rfl, hO'⟩, rfl⟩
 refine RS.pv (PV.all tab_ok rfl) rfl ?_
 refine RS.nil ?_
 repeat' (first | refine CS.seq ?_ | refine thenQ.normal ?_)
 refine CS.region (id := 4) ?_
 iterate 4 refine RS.pv (PV.all tab_ok rfl) rfl ?_
 (refine RS.pv (PV.lenS tab_ok rfl rfl) rfl ?_)
 refine RS.pv (PV.all tab_ok rfl) rfl ?_
 refine RS.pv (PV.sub rfl rfl (by omega)) rfl ?_
 refine RS.pv (PV.sliceLHA (j := a) (m := us.length - b) tab_ok rfl rfl (by show Value.int IntKind.i64 ((us.length : Int) - (b : Int)) = _; congr 1; omega) rfl hba (by omega) (by omega)) rfl ?_
 refine RS.op (OpS.appC [] tab_ok (sz := 3) (bytes := 48) (m := us.length - b - a) rfl rfl hO' ((sb.le hi2).rd _) ⟨_, rfl, rfl⟩ ⟨_, rfl, rfl, rfl⟩ (by omega) rb.one (by omega) (by omega)) rfl ?_
 rintro _ i3 _ hi3 ⟨O2, ⟨ao2, cap2, rfl, hO2⟩, rfl⟩
 replace hi3 := hi2.trans hi3
 refine RS.pv (PV.all tab_ok rfl) rfl ?_
 refine RS.freezeSl hO2 (L0 := L) (List.Perm.refl _) (fun i4 hi4 hs4 => ?_)
 refine RS.nil ?_
 repeat' (first | refine thenQ.normal ?_ | refine CS.ret ?_ | refine retQ.ret ?_)
 have hlen : 0 + (rs.length - b - a) + (us.length - b - a) = (diffL rs us a b).length := by simp [diffL] <;> omega
 exact ⟨⟨a, b, _, hpa, hpb, by rw [← hlen]; exact hs4, ((ra.le hi3).app (rb.le hi3)).le hi4⟩, rfl⟩
end Go.Proofs.YtckdkhhpjnefpaaGreatDoor
namespace Go.Proofs.YtckdkhhpjnefpaaGreatDoor
set_option maxHeartbeats 4000000
open Go Go.Eng
theorem RVc.at {i : Imm} {v : Value} {cs : List Value} {qs : List Rul} {k : Nat} {r : Rul} (hs : Sl i v 3 qs.length cs) (h : RVc i cs qs) (hk : qs[k]? = some r) :
 ∃ b o c t z cap ta tc, v = .slice (some ⟨b, o, none⟩) qs.length cap ∧ i.blk b = some (.cells (List.toArray c) t z) ∧ (∀ d u, [Value.string r.file, .int .i64 r.line, .slice ta r.terms.length tc][d]? = some u → c[o + ((k : Nat) : Int).toNat * 3 + d]? = some u) ∧ Sl i (.slice ta r.terms.length tc) 4 r.terms.length (terms r.terms) ∧ r.terms.length ≤ 1024 := by
 obtain ⟨ta, tc, e, h5, h6, _⟩ := h.2 k r hk
 obtain ⟨b, o, c, t, z, cap, g1, g2, g3, g4⟩ := Sl.nth hs (List.getElem?_eq_some_iff.1 hk).1 (by omega)
 rw [e] at g4
 exact ⟨b, o, c, t, z, cap, ta, tc, g1, g2, g4, h5, h6⟩
theorem SameRules_t (va vb : Value) (qs : List Rul) (ca cb : List Value) (i : Imm) (L : SH) (hsa : Sl i va 3 qs.length ca) (hsb : Sl i vb 3 qs.length cb) (ha : RVc i ca qs) (hb : RVc i cb qs) (hn : qs.length ≤ 2000) :
 FnS Tryz.prog 9 [va, vb] i L fun v i' L' => v = .bool true ∧ i' = i ∧ L' = L := by
 obtain ⟨aa, ac, rfl, _⟩ := id hsa
 obtain ⟨ba, bc, rfl, _⟩ := id hsb
 refine FnS.intro1 Tryz.func9 rfl Tryz.ntmps9 (by simp) Tryz.results9 ?_
 repeat' (first | refine RS.pv (PV.all tab_ok rfl) rfl ?_ | refine CS.seq ?_ | refine thenQ.normal ?_ | refine CS.cond_false rfl ?_ | refine CS.skip ?_ | refine CS.block ?_ | refine CS.region (id := 0) ?_ | refine CS.region (id := 1) ?_ | refine CS.region (id := 3) ?_ | refine RS.pv (PV.lenS tab_ok rfl rfl) rfl ?_ | refine RS.pv (PV.neqF rfl rfl (by omega)) rfl ?_ | refine RS.nil ?_)
 refine CS.loop [0, 1, 5] (fun m vs i' L' => ∃ k : Nat, m = qs.length - k ∧ k ≤ qs.length ∧ vs = [.slice aa qs.length ac, .slice ba qs.length bc, .int .i64 (k : Int)] ∧ i' = i ∧ L' = L) qs.length ⟨0, rfl, Nat.zero_le _, rfl, rfl, rfl⟩ ?_
 rintro m g vs i L hi ⟨k, rfl, hk, rfl, rfl, rfl⟩
 by_cases hlt : k < qs.length
 · obtain ⟨r, hr⟩ : ∃ r, qs[k]? = some r := ⟨_, List.getElem?_eq_getElem hlt⟩
   obtain ⟨b1, o1, c1, t1, z1, p1, ta1, tc1, e1, g1, q1, hs1, hn1⟩ := RVc.at hsa ha hr
   obtain ⟨b2, o2, c2, t2, z2, p2, ta2, tc2, e2, g2, q2, hs2, hn2⟩ := RVc.at hsb hb hr
   cases e1
   cases e2
   repeat' (first | refine RS.pv (PV.all tab_ok rfl) rfl ?_ | refine QS.pv (PV.all tab_ok rfl) rfl ?_ | refine CS.seq ?_ | refine thenQ.normal ?_ | refine CS.cond_true rfl ?_ | refine CS.cond_false rfl ?_ | refine CS.skip ?_ | refine CS.block ?_ | refine blkQ.normal ?_ | refine CS.region (id := 4) ?_ | refine CS.region (id := 5) ?_ | refine CS.drawQ (id := 6) mix (by kernel_rfl) ?_ | refine RS.pv (PV.lenS tab_ok rfl rfl) rfl ?_ | refine RS.pv (PV.lssT rfl rfl (by omega)) rfl ?_ | refine RS.pv (PV.add rfl rfl (by omega)) rfl ?_ | refine QS.pv (PV.indexAddr tab_ok rfl rfl rfl (by omega)) rfl ?_ | refine QS.lv (LV.load1 tab_ok rfl (Has.imm g1) rfl (q1 0 _ rfl)) rfl ?_ | refine QS.lv (LV.load1 tab_ok rfl (Has.imm g2) rfl (q2 0 _ rfl)) rfl ?_ | refine QS.pvN (PV.sneq rfl rfl) rfl (fun _ => ?_) (fun h => absurd rfl h) | refine QS.lv (LV.load1 tab_ok rfl (Has.imm g1) rfl (q1 1 _ rfl)) rfl ?_ | refine QS.lv (LV.load1 tab_ok rfl (Has.imm g2) rfl (q2 1 _ rfl)) rfl ?_ | refine QS.pv (PV.neqF rfl rfl (by omega)) rfl ?_ | refine QS.lv (LV.load1 tab_ok rfl (Has.imm g1) rfl (q1 2 _ rfl)) rfl ?_ | refine QS.lv (LV.load1 tab_ok rfl (Has.imm g2) rfl (q2 2 _ rfl)) rfl ?_ | refine QS.callB (p := r.terms = r.terms) ((SameTerms_t _ _ _ _ _ _ hs1 hs2 (by omega)).mono fun _ _ _ _ h => ⟨h.1, h.2.2⟩) rfl (by kernel_rfl) rfl (fun _ => ?_) (fun h => absurd rfl h) | refine RS.nil ?_ | refine QS.nil ?_)
   exact ⟨qs.length - (k + 1), by omega, k + 1, rfl, by omega, rfl, rfl, rfl⟩
 · repeat' (first | refine RS.pv (PV.all tab_ok rfl) rfl ?_ | refine CS.seq ?_ | refine thenQ.normal ?_ | refine CS.cond_false rfl ?_ | refine CS.ret ?_ | refine retQ.ret ?_ | refine CS.exit ?_ | refine thenQ.exit ?_ | refine blkQ.here ?_ | refine CS.region (id := 4) ?_ | refine CS.region (id := 8) ?_ | refine RS.pv (PV.lenS tab_ok rfl rfl) rfl ?_ | refine RS.pv (PV.lssF rfl rfl (by omega)) rfl ?_ | refine RS.nil ?_)
   exact ⟨rfl, rfl, rfl⟩
end Go.Proofs.YtckdkhhpjnefpaaGreatDoor
namespace Go.Proofs.YtckdkhhpjnefpaaGreatDoor
set_option maxHeartbeats 4000000
open Go Go.Eng
theorem Clone57_t (v : Value) (n : Nat) (xs : List Value) (i : Imm) (L : SH) (hv : Sl i v 4 n xs) (hone : ∀ c ∈ xs, c.oneCell' = true) (hb : n * 48 ≤ 140737488355328) :
 FnS Tryz.prog 57 [v] i L fun v' i' L' => Sl i' v' 4 n xs ∧ L' = L := by
 refine FnS.frozen (e := 54) ?_
 have hrd := hv.rd
 obtain ⟨ao, cap, rfl, hl, hr⟩ := hv
 refine FnS.intro1 Tryz.func57 rfl Tryz.ntmps57 (by simp) Tryz.results57 ?_
 cases ao with
 | none =>
   have hxs : xs = [] := by
    rcases hr with h | ⟨b, o, cs, t, fz, h, _⟩
    · exact h
    · cases h
   subst hxs
   have hn : n = 0 := by simp at hl; omega
   subst hn
   repeat' (first | refine RS.pv (PV.all tab_ok rfl) rfl ?_ | refine CS.seq ?_ | refine thenQ.normal ?_ | refine CS.cond_true rfl ?_ | refine CS.ret ?_ | refine thenQ.ret ?_ | refine retQ.ret ?_ | refine CS.region (id := 0) ?_ | refine CS.region (id := 1) ?_ | refine CS.region (id := 2) ?_ | refine RS.nil ?_)
   exact ⟨[], SlO.nil 54 4, rfl⟩
 | some a =>
   repeat' (first | refine RS.pv (PV.all tab_ok rfl) rfl ?_ | refine CS.seq ?_ | refine thenQ.normal ?_ | refine CS.cond_false rfl ?_ | refine CS.skip ?_ | refine CS.ret ?_ | refine retQ.ret ?_ | refine CS.region ?_ | refine RS.buildSlice tab_ok rfl rfl (fun b => ?_) | (refine RS.append tab_ok (sz := 4) (bytes := 48) (k := 0) (m := n) (xs := []) (news := xs) rfl rfl rfl ⟨_, rfl, rfl⟩ ⟨_, rfl, rfl, rfl⟩ (by omega) (SlO.built 54 4 0 b [] rfl) rfl (hrd _) hone (by omega) (by omega) ?_; intro v' O' hO hnil) | refine RS.pv (PV.assign (v := v') (sv_eq _)) rfl ?_ | refine RS.nil ?_)
   rw [Nat.zero_add, List.nil_append] at hO
   exact ⟨O', hO, rfl⟩
theorem Grow58_t (n : Nat) (hn : n ≤ 1000000000000) (i : Imm) (L : SH) : FnS Tryz.prog 58 [.slice none 0 0, .int .i64 (n : Int)] i L fun v i' L' => i = i' ∧ ∃ O, SlO 52 v 3 0 [] O ∧ L' = O ++ L := by
 refine FnS.intro1 Tryz.func58 rfl Tryz.ntmps58 (by simp) Tryz.results58 ?_
 have hz : ((n : Nat) : Int) - ((((0 : Nat)) : Int) - (((0 : Nat)) : Int)) = (n : Int) := by omega
 by_cases h0 : n = 0
 · subst h0
   repeat' (first | refine RS.pv (PV.all tab_ok rfl) rfl ?_ | refine CS.seq ?_ | refine thenQ.normal ?_ | refine CS.cond_false rfl ?_ | refine CS.skip ?_ | refine CS.ret ?_ | refine retQ.ret ?_ | refine CS.region (id := 0) ?_ | refine CS.region (id := 1) ?_ | refine CS.region (id := 3) ?_ | refine CS.region (id := 4) ?_ | refine CS.region (id := 6) ?_ | refine RS.pv (PV.lssF rfl rfl (by omega)) rfl ?_ | refine RS.pv (PV.capS tab_ok rfl rfl) rfl ?_ | refine RS.pv (PV.lenS tab_ok rfl rfl) rfl ?_ | refine RS.pv (PV.sub rfl rfl (by omega)) rfl ?_ | refine RS.pv (PV.gtrF rfl rfl (by omega)) rfl ?_ | refine RS.nil ?_)
   exact ⟨rfl, [], SlO.nil 52 3, rfl⟩
 · repeat' (first | refine RS.pv (PV.all tab_ok rfl) rfl ?_ | refine CS.seq ?_ | refine thenQ.normal ?_ | refine CS.cond_true rfl ?_ | refine CS.cond_false rfl ?_ | refine CS.skip ?_ | refine CS.ret ?_ | refine retQ.ret ?_ | refine CS.region ?_ | refine RS.pv (PV.lssF rfl rfl (by omega)) rfl ?_ | refine RS.pv (PV.capS tab_ok rfl rfl) rfl ?_ | refine RS.pv (PV.lenS tab_ok rfl rfl) rfl ?_ | refine RS.pv (PV.sub rfl rfl (by omega)) rfl ?_ | refine RS.pv (PV.gtrT rfl rfl (by omega)) rfl ?_ | refine RS.pv (PV.sliceHi tab_ok rfl rfl rfl (.inl rfl) ⟨by omega, by omega⟩) rfl ?_ | refine RS.appendZ tab_ok (sz := 3) (bytes := 48) (m := n) rfl rfl rfl ⟨_, rfl, rfl⟩ rfl ⟨_, rfl, rfl, rfl⟩ (by omega) (by omega) (by omega) (by omega) (fun b cap cs h1 h2 => ?_) | refine RS.pv (PV.sliceHi tab_ok rfl rfl rfl (.inr ⟨_, _, rfl⟩) ⟨by omega, by omega⟩) rfl ?_ | refine RS.nil ?_)
   exact ⟨rfl, _, ⟨rfl, .inr ⟨b, cap, cs, rfl, Nat.zero_le _, by simpa using h2, rfl⟩⟩, rfl⟩
end Go.Proofs.YtckdkhhpjnefpaaGreatDoor
namespace Go.Proofs.YtckdkhhpjnefpaaGreatDoor
set_option maxHeartbeats 4000000
open Go Go.Eng
abbrev Ch : Type := Value × Value × Value
def chs (l : List Ch) : List Value := l.flatMap fun c => [c.1, c.2.1, c.2.2]
theorem chs_of : ∀ (n : Nat) (cs : List Value), cs.length = n * 3 → ∃ pl : List Ch, pl.length = n ∧ chs pl = cs
 | 0, cs, h => ⟨[], rfl, by have : cs = [] := List.eq_nil_of_length_eq_zero (by simpa using h); rw [this]; rfl⟩
 | n + 1, cs, h => by
   match cs, h with
   | a :: b :: c :: l, h =>
     obtain ⟨pl, h1, h2⟩ := chs_of n l (by simp at h; omega)
     exact ⟨(a, b, c) :: pl, by simp [h1], by rw [← h2]; rfl⟩
   | [], h => simp at h
   | [a], h => simp at h; omega
   | [a, b], h => simp at h; omega
def lens (ps : List (Value × List Ch)) : Nat := (ps.map fun p => p.2.length).sum
theorem lens_cat (ps : List (Value × List Ch)) : (ps.flatMap fun p => p.2).length = lens ps := by simp [lens, List.length_flatMap]
theorem lens_take {ps : List (Value × List Ch)} {k : Nat} {p : Value × List Ch} (h : ps[k]? = some p) : lens (ps.take (k + 1)) = lens (ps.take k) + p.2.length := by
 simp [lens, List.take_add_one, h]
theorem cat_take {ps : List (Value × List Ch)} {k : Nat} {p : Value × List Ch} (h : ps[k]? = some p) : (ps.take (k + 1)).flatMap (fun p => p.2) = (ps.take k).flatMap (fun p => p.2) ++ p.2 := by
 simp [List.take_add_one, h]
theorem lens_le (ps : List (Value × List Ch)) (k : Nat) : lens (ps.take k) ≤ lens ps := by
 have h : lens ps = lens (ps.take k) + lens (ps.drop k) := by
  unfold lens
  rw [← List.sum_append, ← List.map_append, List.take_append_drop]
 omega
theorem chs_app (a b : List Ch) : chs (a ++ b) = chs a ++ chs b := by simp [chs]
theorem Concat31_t (ps : List (Value × List Ch)) (v : Value) (i : Imm) (L : SH) (hv : Sl i v 1 ps.length (ps.map fun p => p.1)) (hp : ∀ p ∈ ps, Sl i p.1 3 p.2.length (chs p.2)) (h1c : ∀ p ∈ ps, ∀ c ∈ chs p.2, c.oneCell' = true) (hn : ps.length ≤ 1000) (hl : lens ps ≤ 1000000000000) :
 FnS Tryz.prog 31 [v] i L fun u i' L' => L' = L ∧ Sl i' u 3 (ps.flatMap fun p => p.2).length (chs (ps.flatMap fun p => p.2)) := by
 refine FnS.state (K := fun u i' L' => ∃ O, SlO 52 u 3 (ps.flatMap fun p => p.2).length (chs (ps.flatMap fun p => p.2)) O ∧ L' = O ++ L) ?_ ?_
 rotate_left
 · rintro v i' L' w _ hs ⟨O, hO, rfl⟩
   obtain ⟨i2, h1, h2, h3⟩ := hO.freeze hs
   exact ⟨i2, L, h1, h2, rfl, h3⟩
 obtain ⟨ao, cap, rfl, -⟩ := id hv
 refine FnS.intro1 Tryz.func31 rfl Tryz.ntmps31 (by simp) Tryz.results31 ?_
 repeat' (first | refine RS.pv (PV.all tab_ok rfl) rfl ?_ | refine CS.seq ?_ | refine thenQ.normal ?_ | refine CS.block ?_ | refine CS.region (id := 0) ?_ | refine CS.region (id := 1) ?_ | refine CS.region (id := 2) ?_ | refine RS.pv (PV.lenS tab_ok rfl rfl) rfl ?_ | refine RS.nil ?_)
 refine CS.loop [0, 3, 9, 10, 11] (fun m vs i' L' => ∃ k : Nat, m = ps.length - k ∧ k ≤ ps.length ∧ vs = [.slice ao ps.length cap, .int .i64 (lens (ps.take k) : Int), .slice ao ps.length cap, .int .i64 ps.length, .int .i64 (k : Int)] ∧ i = i' ∧ L = L') ps.length ⟨0, rfl, Nat.zero_le _, rfl, rfl, rfl⟩ ?_
 rintro m g vs i' L' hi ⟨k, rfl, hk, rfl, rfl, rfl⟩
 by_cases hlt : k < ps.length
 · obtain ⟨b1, o1, c1, t1, z1, p1, e1, g1, h1⟩ := hv.at hlt (by omega)
   cases e1
   obtain ⟨⟨pv, pl⟩, hpk⟩ : ∃ p, ps[k]? = some p := ⟨_, List.getElem?_eq_getElem hlt⟩
   have q1 := h1 0 (by omega)
   rw [show (ps.map fun p => p.1)[k * 1 + 0]? = some pv by simp [hpk]] at q1
   have hs : Sl i pv 3 pl.length (chs pl) := hp _ (List.mem_of_getElem? hpk)
   obtain ⟨pa, pc, rfl, -⟩ := id hs
   have hlk := lens_take hpk
   have hle := lens_le ps (k + 1)
   simp only at hlk
   repeat' (first | refine RS.pv (PV.all tab_ok rfl) rfl ?_ | refine CS.seq ?_ | refine thenQ.normal ?_ | refine CS.cond_true rfl ?_ | refine CS.cond_false rfl ?_ | refine CS.skip ?_ | refine CS.block ?_ | refine blkQ.normal ?_ | refine CS.region (id := 3) ?_ | refine CS.region (id := 4) ?_ | refine CS.region (id := 5) ?_ | refine CS.region (id := 6) ?_ | refine CS.region (id := 8) ?_ | refine RS.pv (PV.lssT rfl rfl (by omega)) rfl ?_ | refine RS.pv (PV.indexAddr tab_ok rfl rfl rfl (by omega)) rfl ?_ | refine RS.lv (LV.load1 tab_ok rfl (Has.imm g1) rfl q1) rfl ?_ | refine RS.pv (PV.lenS tab_ok rfl rfl) rfl ?_ | refine RS.pv (PV.add rfl rfl (by omega)) rfl ?_ | refine RS.pv (PV.lssF rfl rfl (by omega)) rfl ?_ | refine RS.nil ?_)
   exact ⟨ps.length - (k + 1), by omega, k + 1, rfl, hlt, by rw [hlk]; rfl, rfl, rfl⟩
 · have : k = ps.length := by omega
   subst this
   rw [List.take_length]
   repeat' (first | refine RS.pv (PV.all tab_ok rfl) rfl ?_ | refine CS.seq ?_ | refine thenQ.normal ?_ | refine CS.cond_false rfl ?_ | refine CS.block ?_ | refine CS.exit ?_ | refine thenQ.exit ?_ | refine blkQ.here ?_ | refine CS.region (id := 3) ?_ | refine CS.region (id := 9) ?_ | refine CS.region (id := 10) ?_ | refine RS.pv (PV.lssF rfl rfl (by omega)) rfl ?_ | (refine RS.call (Grow58_t (lens ps) hl _ _) rfl (by kernel_rfl) rfl ?_; rintro v i2 L2 hi2 ⟨rfl, O, hO, rfl⟩; obtain ⟨ga, gc, rfl⟩ := SlO.shape hO) | refine RS.pv (PV.lenS tab_ok rfl rfl) rfl ?_ | refine RS.nil ?_)
   refine CS.loop [6, 25, 26, 27] (fun m vs i' L' => ∃ (k : Nat) (O : SH) (oa : Option Addr) (oc : Nat), m = ps.length - k ∧ k ≤ ps.length ∧ SlO 52 (.slice oa (lens (ps.take k)) oc) 3 (lens (ps.take k)) (chs ((ps.take k).flatMap fun p => p.2)) O ∧ vs = [.slice oa (lens (ps.take k)) oc, .slice ao ps.length cap, .int .i64 ps.length, .int .i64 (k : Int)] ∧ i = i' ∧ L' = O ++ L) ps.length ⟨0, O, ga, gc, rfl, Nat.zero_le _, hO, rfl, rfl, rfl⟩ ?_
   rintro m g vs i' L' hi ⟨k, O, oa, oc, rfl, hk, hO, rfl, rfl, rfl⟩
   by_cases hlt : k < ps.length
   · obtain ⟨b1, o1, c1, t1, z1, p1, e1, g1, h1⟩ := hv.at hlt (by omega)
     cases e1
     obtain ⟨⟨pv, pl⟩, hpk⟩ : ∃ p, ps[k]? = some p := ⟨_, List.getElem?_eq_getElem hlt⟩
     have q1 := h1 0 (by omega)
     rw [show (ps.map fun p => p.1)[k * 1 + 0]? = some pv by simp [hpk]] at q1
     have hs : Sl i pv 3 pl.length (chs pl) := hp _ (List.mem_of_getElem? hpk)
     obtain ⟨pa, pc, rfl, -⟩ := id hs
     have hlk := lens_take hpk
     have hle := lens_le ps (k + 1)
     have hck := cat_take hpk
     simp only at hlk hck
     repeat' (first | refine RS.pv (PV.all tab_ok rfl) rfl ?_ | refine CS.seq ?_ | refine thenQ.normal ?_ | refine CS.cond_true rfl ?_ | refine CS.skip ?_ | refine CS.block ?_ | refine blkQ.normal ?_ | refine CS.region (id := 11) ?_ | refine CS.region (id := 12) ?_ | refine CS.region (id := 13) ?_ | refine CS.region (id := 14) ?_ | refine RS.pv (PV.lssT rfl rfl (by omega)) rfl ?_ | refine RS.pv (PV.indexAddr tab_ok rfl rfl rfl (by omega)) rfl ?_ | refine RS.lv (LV.load1 tab_ok rfl (Has.imm g1) rfl q1) rfl ?_ | (refine RS.append tab_ok (sz := 3) (bytes := 48) (k := lens (ps.take k)) (m := pl.length) (xs := chs ((ps.take k).flatMap (fun p : Value × List Ch => p.2))) (news := chs pl) rfl rfl rfl ⟨_, rfl, rfl⟩ ⟨_, rfl, rfl, rfl⟩ (by omega) hO rfl (hs.rd _) (h1c _ (List.mem_of_getElem? hpk)) (by omega) (by omega) ?_; intro v' O' hO' hnil; obtain ⟨oa', oc', rfl⟩ := SlO.shape hO'; have hlen' := hO') | refine RS.pv (PV.add rfl rfl (by omega)) rfl ?_ | refine RS.nil ?_)
     exact ⟨ps.length - (k + 1), by omega, k + 1, O', oa', oc', rfl, hlt, by rw [hlk, hck, chs_app]; exact hO', by rw [hlk]; rfl, rfl, rfl⟩
   · have : k = ps.length := by omega
     subst this
     rw [List.take_length] at hO ⊢
     repeat' (first | refine RS.pv (PV.all tab_ok rfl) rfl ?_ | refine CS.seq ?_ | refine thenQ.normal ?_ | refine CS.cond_false rfl ?_ | refine CS.ret ?_ | refine retQ.ret ?_ | refine CS.exit ?_ | refine thenQ.exit ?_ | refine blkQ.here ?_ | refine CS.region (id := 11) ?_ | refine CS.region (id := 15) ?_ | refine RS.pv (PV.lssF rfl rfl (by omega)) rfl ?_ | refine RS.nil ?_)
     refine ⟨O, ?_, rfl⟩
     rw [lens_cat]
     exact hO
end Go.Proofs.YtckdkhhpjnefpaaGreatDoor
namespace Go.Proofs.YtckdkhhpjnefpaaGreatDoor
set_option maxHeartbeats 4000000
open Go Go.Eng
theorem RVc.single {i : Imm} {l : List Value} {r : Rul} (h : RulIs i l r) : RVc i l [r] := by
 have hl : l.length = 3 := by obtain ⟨ta, tc, rfl, _⟩ := h; rfl
 refine ⟨by simp [hl], fun k r' hk => ?_⟩
 have hk0 : k = 0 := by have := (List.getElem?_eq_some_iff.1 hk).1; simp at this; exact this
 subst hk0
 simp at hk; subst hk
 have e : nth 3 l 0 = l := by unfold nth; rw [Nat.zero_mul, List.drop_zero, ← hl, List.take_length]
 rw [e]; exact h
theorem copied_t (v : Value) (qs : List Rul) (cs : List Value) (i : Imm) (L : SH) (hs : Sl i v 3 qs.length cs) (ha : RVc i cs qs) (hn : qs.length ≤ 2000) :
 FnS Tryz.prog 30 [v] i L fun v' i' L' => (∃ ds, Sl i' v' 3 qs.length ds ∧ RVc i' ds qs) ∧ L' = L := by
 refine FnS.drop ?_
 obtain ⟨ao, cap, rfl, _⟩ := id hs
 refine FnS.intro1 Tryz.func30 rfl Tryz.ntmps30 (by simp) Tryz.results30 ?_
 repeat' (first | refine RS.pv (PV.all tab_ok rfl) rfl ?_ | refine CS.seq ?_ | refine thenQ.normal ?_ | refine CS.block ?_ | refine CS.region (id := 0) ?_ | refine CS.region (id := 1) ?_ | refine CS.region (id := 2) ?_ | refine RS.pv (PV.lenS tab_ok rfl rfl) rfl ?_ | refine RS.nil ?_)
 refine CS.loop [3, 6, 7, 8] (fun m vs i' L9 => ∃ (k : Nat) (a2 : Option Addr) (c2 : Nat) (ds : List Value) (O G : SH), m = qs.length - k ∧ k ≤ qs.length ∧ vs = [.slice a2 k c2, .slice ao qs.length cap, .int .i64 (qs.length : Int), .int .i64 (k : Int)] ∧ SlO 52 (.slice a2 k c2) 3 k ds O ∧ RVc i' ds (qs.take k) ∧ Sl i' (.slice ao qs.length cap) 3 qs.length cs ∧ RVc i' cs qs ∧ L9 = G ++ (O ++ L)) _ ⟨0, _, _, [], [], [], rfl, Nat.zero_le _, rfl, SlO.nil _ _, ⟨rfl, fun k r h => by simp at h⟩, hs, ha, rfl⟩ ?_
 clear hs ha
 rintro m g vs i _ hi ⟨k, a2, c2, ds, O, G, rfl, hk, rfl, hO, hd, hs, ha, rfl⟩
 by_cases hlt : k < qs.length
 · obtain ⟨r, hr⟩ : ∃ r, qs[k]? = some r := ⟨_, List.getElem?_eq_getElem hlt⟩
   obtain ⟨b1, o1, c1, t1, z1, p1, ta1, tc1, e1, g1, q1, hs1, hn1⟩ := RVc.at hs ha hr
   cases e1
   have hri := ha.2 k r hr
   obtain ⟨_, _, _, _, _, hsm1, hfs1⟩ := hri
   repeat' (first | refine CS.seq ?_ | refine thenQ.normal ?_ | refine CS.cond_true rfl ?_ | refine CS.skip ?_ | refine CS.block ?_ | refine CS.region (id := 3) ?_ | refine RS.pv (PV.lssT rfl rfl (by omega)) rfl ?_ | refine RS.nil ?_)
   refine CS.region (id := 4) ?_
   (refine RS.pv (PV.indexAddr tab_ok rfl rfl rfl (by omega)) rfl ?_)
   refine RS.lv (LV.loadL (l := [.string r.file, .int .i64 r.line, .slice ta1 r.terms.length tc1]) tab_ok rfl (Has.imm g1) rfl rfl rfl q1) rfl ?_
   refine RS.alloc tab_ok rfl rfl (fun b5 => ?_)
   (refine RS.store (k := 0) tab_ok rfl rfl rfl rfl rfl rfl rfl rfl ?_)
   refine RS.nil ?_
   repeat' (first | refine CS.seq ?_ | refine thenQ.normal ?_)
   refine CS.region (id := 5) ?_
   refine RS.pv (PV.all tab_ok rfl) rfl ?_
   (refine RS.lv (LV.load tab_ok rfl (Has.own 0 rfl) rfl) rfl ?_)
   refine RS.call (Clone57_t _ r.terms.length (terms r.terms) _ _ hs1 (terms_one _) (by omega)) rfl (by kernel_rfl) rfl ?_
   rintro w i2 _ hi2 ⟨hw, rfl⟩
   obtain ⟨aw, cw, rfl, _⟩ := id hw
   refine RS.pv (PV.all tab_ok rfl) rfl ?_
   (refine RS.store (k := 0) tab_ok rfl rfl rfl rfl rfl rfl rfl rfl ?_)
   refine RS.nil ?_
   repeat' (first | refine thenQ.normal ?_)
   refine CS.region (id := 6) ?_
   refine RS.pv (PV.all tab_ok rfl) rfl ?_
   (refine RS.lv (LV.load tab_ok rfl (Has.own 0 rfl) rfl) rfl ?_)
   refine RS.buildSliceF tab_ok 3 rfl (bsl_one (cs := [.string r.file, .int .i64 r.line, .slice aw r.terms.length cw]) rfl rfl rfl rfl (by decide) (by decide) rfl) rfl (fun b8 i3 hi3 hbs => ?_)
   refine RS.op (OpS.appC (_ :: G) tab_ok (sz := 3) (bytes := 48) (m := 1) rfl rfl hO (hbs.rd _) ⟨_, rfl, rfl⟩ ⟨_, rfl, rfl, rfl⟩ (by omega) (allOne rfl) (by omega) (by omega)) rfl ?_
   rintro _ i4 _ hi4 ⟨O', ⟨ao', cap', rfl, hO'⟩, rfl⟩
   replace hi3 := hi3.trans hi4
   replace hi4 := hi2.trans hi3
   refine RS.pv (PV.all tab_ok rfl) rfl ?_
   refine RS.nil ?_
   repeat' (first | refine RS.pv (PV.all tab_ok rfl) rfl ?_ | refine thenQ.normal ?_ | refine blkQ.normal ?_ | refine CS.region ?_ | refine RS.pv (PV.add rfl rfl (by omega)) rfl ?_ | refine RS.nil ?_)
   have e1 : qs.take (k + 1) = qs.take k ++ [r] := by rw [List.take_add_one, hr]; rfl
   exact ⟨qs.length - (k + 1), by omega, k + 1, ao', cap', _, O', _ :: G, rfl, hlt, rfl, hO', by rw [e1]; exact (hd.le hi4).app (RVc.single ⟨aw, cw, rfl, hw.le hi3, hn1, hsm1, hfs1⟩), hs.le hi4, ha.le hi4, rfl⟩
 · obtain rfl : k = qs.length := by omega
   repeat' (first | refine CS.seq ?_ | refine thenQ.normal ?_ | refine CS.cond_false rfl ?_ | refine CS.exit ?_ | refine thenQ.exit ?_ | refine blkQ.here ?_ | refine CS.region (id := 3) ?_ | refine RS.pv (PV.lssF rfl rfl (by omega)) rfl ?_ | refine RS.nil ?_)
   refine CS.freezeSl hO (L0 := G ++ L) (List.perm_append_comm_assoc G O L) (fun i4 hi4 hs4 => ?_)
   repeat' (first | refine RS.pv (PV.all tab_ok rfl) rfl ?_ | refine thenQ.normal ?_ | refine CS.ret ?_ | refine retQ.ret ?_ | refine CS.region ?_ | refine RS.nil ?_)
   rw [List.take_length] at hd
   exact ⟨G, ⟨ds, hs4, hd.le hi4⟩, rfl⟩
end Go.Proofs.YtckdkhhpjnefpaaGreatDoor
namespace Go.Proofs.YtckdkhhpjnefpaaGreatDoor
set_option maxHeartbeats 4000000
open Go Go.Eng
def RVn (i : Imm) (v : Value) (qs : List Rul) : Prop := ∃ ds, Sl i v 3 qs.length ds ∧ RVc i ds qs
theorem RVn.mono (qs : List Rul) : Mono fun i v => RVn i v qs := fun _ _ hi _ ⟨ds, h1, h2⟩ => ⟨ds, h1.le hi, h2.le hi⟩
theorem Changed10_t (va vb : Value) (rs us : List Rul) (i : Imm) (L : SH) (ha : RulesV i va rs) (hb : RulesV i vb us) :
 FnS Tryz.prog 10 [va, vb] i L fun v i' L' => (∃ (a b : Nat), IsPre (eF rs us) (min rs.length us.length) a ∧ IsPre (eB rs us) (min rs.length us.length - a) b ∧ RVn i' v (diffL rs us a b)) ∧ L' = L := by
 obtain ⟨aa, ac, ca, rfl, hsa, hva, ha5, hac, haa⟩ := ha.open
 obtain ⟨ba, bc, cb, rfl, hsb, hvb, hb5, hbc, hba⟩ := hb.open
 refine FnS.intro1 Tryz.func10 rfl Tryz.ntmps10 (by simp) Tryz.results10 ?_
 repeat' (first | refine RS.pv (PV.all tab_ok rfl) rfl ?_ | refine CS.seq ?_ | refine thenQ.normal ?_ | refine CS.region (id := 0) ?_ | refine CS.region (id := 1) ?_ | (refine RS.call (Common7_t _ _ rs us _ _ ha hb) rfl (by kernel_rfl) rfl ?_; rintro _ i L hi ⟨⟨a, b, rfl, hpa, hpb⟩, rfl⟩; replace hsa := hsa.le hi; replace hsb := hsb.le hi; replace hva := hva.le hi; replace hvb := hvb.le hi) | refine RS.nil ?_)
 have h1 := hpa.1
 have h2 := hpb.1
 have sa := Sl.dropS (k := a) (Sl.takeS (k := rs.length - b) hsa (by omega)) ⟨_, _, _, rfl, by omega, haa.elim (fun h => .inl ⟨h.1, by omega, h.2.2⟩) .inr⟩ (by omega)
 have sb := Sl.dropS (k := a) (Sl.takeS (k := us.length - b) hsb (by omega)) ⟨_, _, _, rfl, by omega, hba.elim (fun h => .inl ⟨h.1, by omega, h.2.2⟩) .inr⟩ (by omega)
 have ra := hva.sub (a := a) (m := rs.length - b) (by omega) (by omega)
 have rb := hvb.sub (a := a) (m := us.length - b) (by omega) (by omega)
 obtain ⟨pl1, hp1, hc1⟩ := chs_of (rs.length - b - a) _ (by obtain ⟨_, _, _, h, _⟩ := sa; exact h)
 obtain ⟨pl2, hp2, hc2⟩ := chs_of (us.length - b - a) _ (by obtain ⟨_, _, _, h, _⟩ := sb; exact h)
 have hlen : (pl1 ++ pl2).length = (diffL rs us a b).length := by rw [List.length_append, hp1, hp2]; simp [diffL] <;> omega
 refine CS.drawE mix [0,1,2,3,4,5,6,7,8,9,10,11,12,13,14,15,16] [17] [] (fun _ => True) (fun L9 => L9 = L) (by kernel_rfl) (by decide) rfl trivial rfl ?_
 iterate 3 refine GM.pv (PV.all tab_ok rfl) rfl rfl rfl rfl rfl rfl ?_
 (refine GM.pv (PV.lenS tab_ok rfl rfl) rfl rfl rfl rfl rfl rfl ?_)
 refine GM.pv (PV.all tab_ok rfl) rfl rfl rfl rfl rfl rfl ?_
 refine GM.pv (PV.sub rfl rfl (by omega)) rfl rfl rfl rfl rfl rfl ?_
 refine GM.pv (PV.sliceLHA (j := a) (m := rs.length - b) tab_ok rfl rfl (by show Value.int IntKind.i64 ((rs.length : Int) - (b : Int)) = _; congr 1; omega) rfl haa (by omega) (by omega)) rfl rfl rfl rfl rfl rfl ?_
 iterate 3 refine GM.pv (PV.all tab_ok rfl) rfl rfl rfl rfl rfl rfl ?_
 (refine GM.pv (PV.lenS tab_ok rfl rfl) rfl rfl rfl rfl rfl rfl ?_)
 refine GM.pv (PV.all tab_ok rfl) rfl rfl rfl rfl rfl rfl ?_
 refine GM.pv (PV.sub rfl rfl (by omega)) rfl rfl rfl rfl rfl rfl ?_
 refine GM.pv (PV.sliceLHA (j := a) (m := us.length - b) tab_ok rfl rfl (by show Value.int IntKind.i64 ((us.length : Int) - (b : Int)) = _; congr 1; omega) rfl hba (by omega) (by omega)) rfl rfl rfl rfl rfl rfl ?_
 refine GM.bs tab_ok 1 (e := 26) rfl rfl rfl rfl rfl rfl ?_
 refine GM.fact (fun i v => RVn i v (diffL rs us a b)) (RVn.mono _) rfl rfl rfl rfl (fun i2 hi2 L9 _ => by
  rintro v ⟨b9, rfl, h9⟩
  refine ⟨rfl, OpS.call (by kernel_rfl) rfl (Concat31_t [(_, pl1), (_, pl2)] _ i2 L9 h9 ?_ ?_ (by simp) (by simp [lens]; omega)) ?_⟩
  · intro p hp
    simp at hp
    rcases hp with rfl | rfl
    · simp only [hp1, hc1]; exact sa.le hi2
    · simp only [hp2, hc2]; exact sb.le hi2
  · intro p hp
    simp at hp
    rcases hp with rfl | rfl
    · simp only [hc1]; exact ra.one
    · simp only [hc2]; exact rb.one
  · rintro u i3 L3 hi3 ⟨rfl, h3⟩
    have e2 := chs_app pl1 pl2
    rw [hc1, hc2] at e2
    simp only [List.flatMap_cons, List.flatMap_nil, List.append_nil] at h3
    rw [e2, hlen] at h3
    refine ⟨rfl, _, h3, ?_⟩
    exact ((ra.app rb).le (hi2.trans hi3))) ?_
 refine GM.fact (fun i v => RVn i v (diffL rs us a b)) (RVn.mono _) rfl rfl rfl rfl (fun i2 hi2 L9 _ => by
  rintro v ⟨ds, hds, hrd⟩
  exact ⟨rfl, OpS.call (by kernel_rfl) rfl (copied_t v (diffL rs us a b) ds i2 L9 hds hrd (by rw [← hlen, List.length_append, hp1, hp2]; omega)) (fun _ _ _ _ ⟨h, h'⟩ => ⟨h', h⟩)⟩) ?_
 refine GM.doneE rfl rfl (fun i2 L2 hi2 _ hA => ?_)
 subst hA
 rintro w ⟨ds, hds, hrd⟩ w2 - w3 -
 obtain ⟨a9, c9, rfl, _⟩ := id hds
 refine RS.pv (PV.all tab_ok rfl) rfl ?_
 refine RS.nil ?_
 repeat' (first | refine thenQ.normal ?_ | refine CS.ret ?_ | refine retQ.ret ?_)
 exact ⟨⟨a, b, hpa, hpb, ds, hds, hrd⟩, rfl⟩
end Go.Proofs.YtckdkhhpjnefpaaGreatDoor
namespace Go.Proofs.YtckdkhhpjnefpaaGreatDoor
set_option maxHeartbeats 4000000
open Go Go.Eng
theorem diffL_self {rs : List Rul} {a b : Nat} (ha : IsPre (eF rs rs) (min rs.length rs.length) a) : (diffL rs rs a b).length = 0 := by
 have h1 : IsPre (eF rs rs) (min rs.length rs.length) rs.length := ⟨by omega, fun j _ => rfl, .inl (by omega)⟩
 have h2 := ha.uniq h1
 subst h2
 simp [diffL] <;> omega
theorem SetI.shape {i : Imm} {l : List Value} (h : SetI i l) : ∃ (a1 a2 a3 a4 a5 a6 a7 a8 : Option Addr) (n1 c1 n2 c2 n3 c3 n4 c4 n5 c5 n6 c6 n7 c7 n8 c8 : Nat) (lim : Int), l = [.slice a1 n1 c1, .slice a2 n2 c2, .slice a3 n3 c3, .slice a4 n4 c4, .slice a5 n5 c5, .slice a6 n6 c6, .slice a7 n7 c7, .slice a8 n8 c8, .int .i64 lim] := by
 obtain ⟨d, h, m, b, o, k, e, p, lim, rfl, ⟨_, _, ⟨a1, c1, rfl, _⟩, _⟩, ⟨_, _, ⟨a2, c2, rfl, _⟩, _⟩, ⟨_, _, ⟨a3, c3, rfl, _⟩, _⟩, ⟨_, _, _, rfl, _⟩, ⟨_, _, _, rfl, _⟩, ⟨_, _, _, rfl, _⟩, ⟨_, _, _, rfl, _⟩, ⟨_, ⟨a8, c8, rfl, _⟩, _⟩⟩ := h
 exact ⟨_, _, _, _, _, _, _, _, _, _, _, _, _, _, _, _, _, _, _, _, _, _, _, _, _, rfl⟩
theorem Changes_t (v : Value) (i : Imm) (L : SH) (hg : Glb i) (hl : IntSl i v)
 (hk : ∀ i' L', i.le i' → FnS Tryz.prog 12 [] i' L' fun r i'' L'' => r = .bool true ∧ L'' = L') :
 FnS Tryz.prog 3 [v] i L fun r i' L' => ∃ G, r = .bool true ∧ L' = G ++ L := by
 obtain ⟨ao, ln, cap, rfl, hln, hcs⟩ := id hl
 refine FnS.intro1 Tryz.func3 rfl Tryz.ntmps3 (by simp) Tryz.results3 ?_
 repeat' (first | refine RS.pv (PV.all tab_ok rfl) rfl ?_ | refine CS.seq ?_ | refine thenQ.normal ?_ | refine CS.region (id := 0) ?_ | refine CS.region (id := 1) ?_ | refine RS.box rfl rfl (fun tp => ?_) | refine RS.nil ?_)
 refine CS.region (id := 2) ?_
 refine RS.pv (PV.all tab_ok rfl) rfl ?_
 refine RS.call (rules_t tp (.slice ao ln cap) 0 _ _ hg hl (by omega)) rfl (by kernel_rfl) rfl ?_
 rintro _ i1 _ hi1 ⟨⟨ra, rb, ls, lu, rfl, hra, hrb, hs, hu⟩, a', rfl⟩
 obtain ⟨ara, nra, cra, rfl, -⟩ := hra.shape
 obtain ⟨arb, nrb, crb, rfl, -⟩ := hrb.shape
 obtain ⟨rs, hrs⟩ := hra.val
 obtain ⟨us, hus⟩ := hrb.val
 obtain ⟨x1, x2, x3, x4, x5, x6, x7, x8, x9, x10, x11, x12, x13, x14, x15, x16, x17, x18, x19, x20, x21, x22, x23, x24, x25, rfl⟩ := hs.shape
 obtain ⟨y1, y2, y3, y4, y5, y6, y7, y8, y9, y10, y11, y12, y13, y14, y15, y16, y17, y18, y19, y20, y21, y22, y23, y24, y25, rfl⟩ := hu.shape
 iterate 5 refine RS.pv (PV.all tab_ok rfl) rfl ?_
 refine RS.alloc tab_ok rfl rfl (fun b6 => ?_)
 refine RS.alloc tab_ok rfl rfl (fun b7 => ?_)
 iterate 2 refine RS.pv (PV.all tab_ok rfl) rfl ?_
 ((refine RS.store (k := 1) tab_ok rfl rfl rfl rfl rfl rfl rfl rfl ?_))
 (all_goals ((refine RS.store (k := 0) tab_ok rfl rfl rfl rfl rfl rfl rfl rfl ?_)))
 (all_goals refine RS.nil ?_)
 repeat' (first | refine CS.seq ?_ | refine thenQ.normal ?_)
 refine CS.region (id := 3) ?_
 iterate 2 refine RS.pv (PV.all tab_ok rfl) rfl ?_
 refine RS.call (Common7_t _ _ rs us _ _ hrs hus) rfl (by kernel_rfl) rfl ?_
 rintro _ i2 _ hi2 ⟨⟨a, b, rfl, hpa, hpb⟩, rfl⟩
 replace hrs := hrs.le hi2
 replace hus := hus.le hi2
 iterate 5 refine RS.pv (PV.all tab_ok rfl) rfl ?_
 refine RS.nil ?_
 repeat' (first | refine CS.seq ?_ | refine thenQ.normal ?_)
 refine CS.region (id := 4) ?_
 iterate 2 refine RS.pv (PV.all tab_ok rfl) rfl ?_
 refine RS.call (Common8_t _ _ rs us _ _ hrs hus) rfl (by kernel_rfl) rfl ?_
 rintro _ i3 _ hi3 ⟨⟨a', b', rfl, hpa', hpb'⟩, rfl, rfl⟩
 obtain rfl := hpa.uniq hpa'
 obtain rfl := hpb.uniq hpb'
 iterate 5 refine RS.pv (PV.all tab_ok rfl) rfl ?_
 refine RS.nil ?_
 repeat' (first | refine CS.seq ?_ | refine thenQ.normal ?_)
 refine CS.region (id := 5) ?_
 iterate 2 refine RS.pv (PV.all tab_ok rfl) rfl ?_
 (refine RS.pv (PV.eqlT rfl rfl (by omega)) rfl ?_)
 (all_goals refine RS.pv (PV.all tab_ok rfl) rfl ?_)
 (all_goals (refine RS.pv (PV.all tab_ok rfl) rfl ?_))
 (all_goals (refine RS.pv (PV.all tab_ok rfl) rfl ?_))
 (all_goals (refine RS.pv (PV.eqlT rfl rfl (by omega)) rfl ?_))
 (all_goals refine RS.pv (PV.all tab_ok rfl) rfl ?_)
 (all_goals refine RS.pv (PV.all tab_ok rfl) rfl ?_)
 (all_goals (refine RS.pv (PV.all tab_ok rfl) rfl ?_))
 (all_goals (refine RS.pv (PV.all tab_ok rfl) rfl ?_))
 refine RS.call (Changed10_t _ _ rs us _ _ hrs hus) rfl (by kernel_rfl) rfl ?_
 rintro w i4 _ hi4 ⟨⟨a2, b2, h1, h2, ds, hds, hdr⟩, rfl⟩
 obtain rfl := hpa.uniq h1
 obtain rfl := hpb.uniq h2
 obtain ⟨aw, cw, rfl, _⟩ := id hds
 replace hrs := hrs.le hi4
 replace hus := hus.le hi4
 (refine RS.pv (PV.all tab_ok rfl) rfl ?_)
 (refine RS.pv (PV.all tab_ok rfl) rfl ?_)
 refine RS.call (Changed11_t _ _ rs us _ _ hrs hus) rfl (by kernel_rfl) rfl ?_
 rintro w2 i5 _ hi5 ⟨⟨a3, b3, es, h3, h4, hes, her⟩, rfl⟩
 obtain rfl := hpa.uniq h3
 obtain rfl := hpb.uniq h4
 obtain ⟨ax, cx, rfl, _⟩ := id hes
 replace hrs := hrs.le hi5
 have hbnd : (diffL rs us a b).length ≤ 2000 := by
  obtain ⟨_, _, _, h5, _⟩ := hrs
  obtain ⟨_, _, _, h6, _⟩ := hus
  simp [diffL]; omega
 refine RS.call (SameRules_t _ _ (diffL rs us a b) ds es _ _ (hds.le hi5) hes (hdr.le hi5) her hbnd) rfl (by kernel_rfl) rfl ?_
 rintro _ i6 _ hi6 ⟨rfl, rfl, rfl⟩
 iterate 2 refine RS.pv (PV.all tab_ok rfl) rfl ?_
 (refine RS.pv (PV.all tab_ok rfl) rfl ?_)
 (refine RS.pv (PV.all tab_ok rfl) rfl ?_)
 refine RS.call (Changed10_t _ _ rs rs _ _ hrs hrs) rfl (by kernel_rfl) rfl ?_
 rintro w3 i7 _ hi7 ⟨⟨a5, b5, h5, h6, fs, hfs, -⟩, rfl⟩
 rw [diffL_self h5] at hfs
 obtain ⟨ay, cy, rfl, _⟩ := id hfs
 (refine RS.pv (PV.lenS tab_ok rfl rfl) rfl ?_)
 (refine RS.pv (PV.eqlT rfl rfl (by omega)) rfl ?_)
 (all_goals refine RS.pv (PV.all tab_ok rfl) rfl ?_)
 (all_goals refine RS.pv (PV.all tab_ok rfl) rfl ?_)
 refine RS.call (hk _ _ ?_) rfl (by kernel_rfl) rfl ?_
 · exact (((hi1.trans hi2).trans hi4).trans hi5).trans hi7
 rintro _ i8 _ hi8 ⟨rfl, rfl⟩
 iterate 2 refine RS.pv (PV.all tab_ok rfl) rfl ?_
 refine RS.nil ?_
 repeat' (first | refine thenQ.normal ?_ | refine CS.ret ?_ | refine retQ.ret ?_)
 exact ⟨[_, _, _], rfl, rfl⟩
end Go.Proofs.YtckdkhhpjnefpaaGreatDoor
namespace Go.Proofs
open Go.Shelf
def Tryz.lays159_ren : Go.Shelf.Ren := ⟨fun | 159 => 261 | 165 => 249 | 166 => 250 | 167 => 303 | 169 => 252 | 230 => 304 | 204 => 305 | 240 => 297 | 241 => 298 | 197 => 251 | 118 => 328 | 168 => 329 | 270 => 330 | 262 => 331 | 276 => 325 | 277 => 326 | 260 => 299 | 242 => 346 | 313 => 347 | 278 => 362 | 274 => 363 | 275 => 364 | n => n, fun | 9 => 9 | 4 => 4 | 3 => 3 | 5 => 5 | 72 => 303 | 0 => 0 | 76 => 307 | 75 => 306 | 107 => 355 | 70 => 301 | 20 => 20 | 37 => 289 | 127 => 351 | 21 => 21 | 105 => 309 | 164 => 205 | 162 => 392 | 203 => 390 | 119 => 372 | 46 => 214 | 139 => 375 | 138 => 374 | 51 => 262 | 160 => 406 | 208 => 423 | 206 => 421 | 80 => 311 | n => n, fun | 13 => 3 | 3 => 1 | 4 => 2 | n => n⟩
theorem Tryz.lays159 : Go.Proofs.Lays.n159 Tryz.prog Tryz.lays159_ren := {
 mixed := by kernel_rfl
 f118 := Tryz.func328.trans (congrArg some (by kernel_rfl))
 f159 := Tryz.func261.trans (congrArg some (by kernel_rfl))
 f165 := Tryz.func249.trans (congrArg some (by kernel_rfl))
 f166 := Tryz.func250.trans (congrArg some (by kernel_rfl))
 f167 := Tryz.func303.trans (congrArg some (by kernel_rfl))
 f168 := Tryz.func329.trans (congrArg some (by kernel_rfl))
 f169 := Tryz.func252.trans (congrArg some (by kernel_rfl))
 f197 := Tryz.func251.trans (congrArg some (by kernel_rfl))
 f204 := Tryz.func305.trans (congrArg some (by kernel_rfl))
 f230 := Tryz.func304.trans (congrArg some (by kernel_rfl))
 f240 := Tryz.func297.trans (congrArg some (by kernel_rfl))
 f241 := Tryz.func298.trans (congrArg some (by kernel_rfl))
 f242 := Tryz.func346.trans (congrArg some (by kernel_rfl))
 f260 := Tryz.func299.trans (congrArg some (by kernel_rfl))
 f262 := Tryz.func331.trans (congrArg some (by kernel_rfl))
 f270 := Tryz.func330.trans (congrArg some (by kernel_rfl))
 f274 := Tryz.func363.trans (congrArg some (by kernel_rfl))
 f275 := Tryz.func364.trans (congrArg some (by kernel_rfl))
 f276 := Tryz.func325.trans (congrArg some (by kernel_rfl))
 f277 := Tryz.func326.trans (congrArg some (by kernel_rfl))
 f278 := Tryz.func362.trans (congrArg some (by kernel_rfl))
 f313 := Tryz.func347.trans (congrArg some (by kernel_rfl))
 t0 := Tryz.underlying0
 a0 := Tryz.isAgg0
 z0 := Tryz.sizeOf0
 v0 := Tryz.zeroValue0
 t3 := Tryz.underlying3
 a3 := Tryz.isAgg3
 z3 := Tryz.sizeOf3
 v3 := Tryz.zeroValue3
 t4 := Tryz.underlying4
 a4 := Tryz.isAgg4
 z4 := Tryz.sizeOf4
 v4 := Tryz.zeroValue4
 t5 := Tryz.underlying5
 a5 := Tryz.isAgg5
 z5 := Tryz.sizeOf5
 v5 := Tryz.zeroValue5
 t9 := Tryz.underlying9
 a9 := Tryz.isAgg9
 z9 := Tryz.sizeOf9
 v9 := Tryz.zeroValue9
 t20 := Tryz.underlying20
 a20 := Tryz.isAgg20
 z20 := Tryz.sizeOf20
 v20 := Tryz.zeroValue20
 t21 := Tryz.underlying21
 a21 := Tryz.isAgg21
 z21 := Tryz.sizeOf21
 v21 := Tryz.zeroValue21
 t37 := Tryz.underlying289
 a37 := Tryz.isAgg289
 z37 := Tryz.sizeOf289
 v37 := Tryz.zeroValue289
 t46 := Tryz.underlying214
 a46 := Tryz.isAgg214
 z46 := Tryz.sizeOf214
 v46 := Tryz.zeroValue214
 t51 := Tryz.underlying262
 a51 := Tryz.isAgg262
 z51 := Tryz.sizeOf262
 v51 := Tryz.zeroValue262
 t70 := Tryz.underlying301
 a70 := Tryz.isAgg301
 z70 := Tryz.sizeOf301
 v70 := Tryz.zeroValue301
 t72 := Tryz.underlying303
 a72 := Tryz.isAgg303
 z72 := Tryz.sizeOf303
 v72 := Tryz.zeroValue303
 t75 := Tryz.underlying306
 a75 := Tryz.isAgg306
 z75 := Tryz.sizeOf306
 v75 := Tryz.zeroValue306
 t76 := Tryz.underlying307
 a76 := Tryz.isAgg307
 z76 := Tryz.sizeOf307
 v76 := Tryz.zeroValue307
 t105 := Tryz.underlying309
 a105 := Tryz.isAgg309
 z105 := Tryz.sizeOf309
 v105 := Tryz.zeroValue309
 t107 := Tryz.underlying355
 a107 := Tryz.isAgg355
 z107 := Tryz.sizeOf355
 v107 := Tryz.zeroValue355
 t119 := Tryz.underlying372
 a119 := Tryz.isAgg372
 z119 := Tryz.sizeOf372
 t127 := Tryz.underlying351
 a127 := Tryz.isAgg351
 z127 := Tryz.sizeOf351
 v127 := Tryz.zeroValue351
 t138 := Tryz.underlying374
 a138 := Tryz.isAgg374
 z138 := Tryz.sizeOf374
 v138 := Tryz.zeroValue374
 t139 := Tryz.underlying375
 a139 := Tryz.isAgg375
 z139 := Tryz.sizeOf375
 v139 := Tryz.zeroValue375
 t160 := Tryz.underlying406
 a160 := Tryz.isAgg406
 z160 := Tryz.sizeOf406
 v160 := Tryz.zeroValue406
 t162 := Tryz.underlying392
 a162 := Tryz.isAgg392
 z162 := Tryz.sizeOf392
 v162 := Tryz.zeroValue392
 t164 := Tryz.underlying205
 a164 := Tryz.isAgg205
 z164 := Tryz.sizeOf205
 v164 := Tryz.zeroValue205
 t203 := Tryz.underlying390
 a203 := Tryz.isAgg390
 z203 := Tryz.sizeOf390
 v203 := Tryz.zeroValue390
 t206 := Tryz.underlying421
 a206 := Tryz.isAgg421
 z206 := Tryz.sizeOf421
 v206 := Tryz.zeroValue421
 t208 := Tryz.underlying423
 a208 := Tryz.isAgg423
 z208 := Tryz.sizeOf423
 v208 := Tryz.zeroValue423
 g3 := by kernel_rfl
 g4 := by kernel_rfl
 g13 := by kernel_rfl }
theorem Tryz.Builder_Extra_159 : Builder.Extra Tryz.prog Tryz.lays159_ren := {
 sizeBuilder := by kernel_rfl
 liesBuilder := by kernel_rfl
 t5 := Tryz.underlying5
 a5 := Tryz.isAgg5
 z5 := Tryz.sizeOf5
 v5 := Tryz.zeroValue5
 infoByte := by kernel_rfl
 cellsByte := by kernel_rfl
 sizeByte := by kernel_rfl
 neB5 := by decide }
open Go.RowKit in
theorem Tryz.strings_ToLower_ascii (s : ByteArray) (w : World) (hs : s.size ≤ 140737488355328) (hascii : ∀ (j : Nat) (b : UInt8), s.data.toList[j]? = some b → b.toNat < 128) :
 Calls Tryz.prog 261 #[.string s] w fun e w' => e = .returned (.string ⟨(Lib.toLowerA s.data.toList).toArray⟩) ∧ Below w.heap.size w w' := Any.strings_ToLower_ascii Tryz.lays159 Tryz.Builder_Extra_159 s w hs hascii
def Tryz.laysGg6_ren : Go.Shelf.Ren := ⟨fun | 6 => 109 | 10 => 156 | 11 => 157 | 12 => 158 | 13 => 159 | 14 => 160 | 24 => 210 | 25 => 211 | 26 => 212 | 27 => 213 | 28 => 214 | 29 => 215 | 30 => 216 | 31 => 217 | 32 => 218 | 33 => 219 | 34 => 267 | 35 => 268 | 36 => 269 | 37 => 270 | 38 => 271 | 39 => 307 | n => n, fun | 20 => 20 | 26 => 163 | 35 => 208 | 0 => 0 | 37 => 210 | 3 => 3 | 41 => 214 | 44 => 217 | 49 => 262 | 51 => 264 | 4 => 4 | 54 => 267 | 53 => 266 | 58 => 234 | 5 => 5 | 9 => 9 | 60 => 330 | 64 => 334 | 66 => 357 | 67 => 38 | 17 => 17 | 32 => 205 | 33 => 206 | 82 => 450 | 12 => 12 | 75 => 444 | 76 => 445 | 77 => 446 | 78 => 351 | 79 => 447 | 80 => 448 | n => n, fun | n => n⟩
theorem Tryz.laysGg6 : Go.Proofs.LaysGg.n6 Tryz.prog Tryz.laysGg6_ren := {
 mixed := by kernel_rfl
 f6 := Tryz.func109.trans (congrArg some (by kernel_rfl))
 f10 := Tryz.func156.trans (congrArg some (by kernel_rfl))
 f11 := Tryz.func157.trans (congrArg some (by kernel_rfl))
 f12 := Tryz.func158.trans (congrArg some (by kernel_rfl))
 f13 := Tryz.func159.trans (congrArg some (by kernel_rfl))
 f14 := Tryz.func160.trans (congrArg some (by kernel_rfl))
 f24 := Tryz.func210.trans (congrArg some (by kernel_rfl))
 f25 := Tryz.func211.trans (congrArg some (by kernel_rfl))
 f26 := Tryz.func212.trans (congrArg some (by kernel_rfl))
 f27 := Tryz.func213.trans (congrArg some (by kernel_rfl))
 f28 := Tryz.func214.trans (congrArg some (by kernel_rfl))
 f29 := Tryz.func215.trans (congrArg some (by kernel_rfl))
 f30 := Tryz.func216.trans (congrArg some (by kernel_rfl))
 f31 := Tryz.func217.trans (congrArg some (by kernel_rfl))
 f32 := Tryz.func218.trans (congrArg some (by kernel_rfl))
 f33 := Tryz.func219.trans (congrArg some (by kernel_rfl))
 f34 := Tryz.func267.trans (congrArg some (by kernel_rfl))
 f35 := Tryz.func268.trans (congrArg some (by kernel_rfl))
 f36 := Tryz.func269.trans (congrArg some (by kernel_rfl))
 f37 := Tryz.func270.trans (congrArg some (by kernel_rfl))
 f38 := Tryz.func271.trans (congrArg some (by kernel_rfl))
 f39 := Tryz.func307.trans (congrArg some (by kernel_rfl))
 t0 := Tryz.underlying0
 a0 := Tryz.isAgg0
 z0 := Tryz.sizeOf0
 v0 := Tryz.zeroValue0
 i0 := by kernel_rfl
 t3 := Tryz.underlying3
 a3 := Tryz.isAgg3
 z3 := Tryz.sizeOf3
 v3 := Tryz.zeroValue3
 i3 := by kernel_rfl
 t4 := Tryz.underlying4
 a4 := Tryz.isAgg4
 z4 := Tryz.sizeOf4
 v4 := Tryz.zeroValue4
 i4 := by kernel_rfl
 t5 := Tryz.underlying5
 a5 := Tryz.isAgg5
 z5 := Tryz.sizeOf5
 v5 := Tryz.zeroValue5
 i5 := by kernel_rfl
 t9 := Tryz.underlying9
 a9 := Tryz.isAgg9
 z9 := Tryz.sizeOf9
 v9 := Tryz.zeroValue9
 i9 := by kernel_rfl
 t12 := Tryz.underlying12
 a12 := Tryz.isAgg12
 z12 := Tryz.sizeOf12
 v12 := Tryz.zeroValue12
 i12 := by kernel_rfl
 t17 := Tryz.underlying17
 a17 := Tryz.isAgg17
 z17 := Tryz.sizeOf17
 v17 := Tryz.zeroValue17
 i17 := by kernel_rfl
 t20 := Tryz.underlying20
 a20 := Tryz.isAgg20
 z20 := Tryz.sizeOf20
 v20 := Tryz.zeroValue20
 i20 := by kernel_rfl
 t26 := Tryz.underlying163
 a26 := Tryz.isAgg163
 z26 := Tryz.sizeOf163
 v26 := Tryz.zeroValue163
 i26 := by kernel_rfl
 t32 := Tryz.underlying205
 a32 := Tryz.isAgg205
 z32 := Tryz.sizeOf205
 v32 := Tryz.zeroValue205
 i32 := by kernel_rfl
 t33 := Tryz.underlying206
 a33 := Tryz.isAgg206
 z33 := Tryz.sizeOf206
 v33 := Tryz.zeroValue206
 i33 := by kernel_rfl
 t35 := Tryz.underlying208
 a35 := Tryz.isAgg208
 z35 := Tryz.sizeOf208
 v35 := Tryz.zeroValue208
 i35 := by kernel_rfl
 t37 := Tryz.underlying210
 a37 := Tryz.isAgg210
 z37 := Tryz.sizeOf210
 v37 := Tryz.zeroValue210
 i37 := by kernel_rfl
 t41 := Tryz.underlying214
 a41 := Tryz.isAgg214
 z41 := Tryz.sizeOf214
 v41 := Tryz.zeroValue214
 i41 := by kernel_rfl
 t44 := Tryz.underlying217
 a44 := Tryz.isAgg217
 z44 := Tryz.sizeOf217
 v44 := Tryz.zeroValue217
 i44 := by kernel_rfl
 t49 := Tryz.underlying262
 a49 := Tryz.isAgg262
 z49 := Tryz.sizeOf262
 v49 := Tryz.zeroValue262
 i49 := by kernel_rfl
 t51 := Tryz.underlying264
 a51 := Tryz.isAgg264
 z51 := Tryz.sizeOf264
 v51 := Tryz.zeroValue264
 i51 := by kernel_rfl
 t53 := Tryz.underlying266
 a53 := Tryz.isAgg266
 z53 := Tryz.sizeOf266
 v53 := Tryz.zeroValue266
 i53 := by kernel_rfl
 t54 := Tryz.underlying267
 a54 := Tryz.isAgg267
 z54 := Tryz.sizeOf267
 v54 := Tryz.zeroValue267
 i54 := by kernel_rfl
 t58 := Tryz.underlying234
 a58 := Tryz.isAgg234
 z58 := Tryz.sizeOf234
 v58 := Tryz.zeroValue234
 i58 := by kernel_rfl
 t60 := Tryz.underlying330
 a60 := Tryz.isAgg330
 z60 := Tryz.sizeOf330
 v60 := Tryz.zeroValue330
 i60 := by kernel_rfl
 t64 := Tryz.underlying334
 a64 := Tryz.isAgg334
 z64 := Tryz.sizeOf334
 v64 := Tryz.zeroValue334
 i64 := by kernel_rfl
 t66 := Tryz.underlying357
 a66 := Tryz.isAgg357
 z66 := Tryz.sizeOf357
 v66 := Tryz.zeroValue357
 i66 := by kernel_rfl
 t67 := Tryz.underlying38
 a67 := Tryz.isAgg38
 z67 := Tryz.sizeOf38
 v67 := Tryz.zeroValue38
 i67 := by kernel_rfl
 t75 := Tryz.underlying444
 a75 := Tryz.isAgg444
 z75 := Tryz.sizeOf444
 v75 := Tryz.zeroValue444
 i75 := by kernel_rfl
 t76 := Tryz.underlying445
 a76 := Tryz.isAgg445
 z76 := Tryz.sizeOf445
 v76 := Tryz.zeroValue445
 i76 := by kernel_rfl
 t77 := Tryz.underlying446
 a77 := Tryz.isAgg446
 z77 := Tryz.sizeOf446
 v77 := Tryz.zeroValue446
 i77 := by kernel_rfl
 t78 := Tryz.underlying351
 a78 := Tryz.isAgg351
 z78 := Tryz.sizeOf351
 v78 := Tryz.zeroValue351
 i78 := by kernel_rfl
 t79 := Tryz.underlying447
 a79 := Tryz.isAgg447
 z79 := Tryz.sizeOf447
 v79 := Tryz.zeroValue447
 i79 := by kernel_rfl
 t80 := Tryz.underlying448
 a80 := Tryz.isAgg448
 z80 := Tryz.sizeOf448
 v80 := Tryz.zeroValue448
 i80 := by kernel_rfl
 t82 := Tryz.underlying450
 a82 := Tryz.isAgg450
 z82 := Tryz.sizeOf450
 v82 := Tryz.zeroValue450
 i82 := by kernel_rfl }
end Go.Proofs
namespace Go.Proofs.YtckdkhhpjnefpaaGreatDoor
open Go Go.Eng Go.Eng.Ev Go.RowKit Go.Lib
theorem Lower_t (s : ByteArray) (i : Imm) (L : SH) (hs : s.size ≤ 140737488355328) (ha : ∀ (j : Nat) (b : UInt8), s.data.toList[j]? = some b → b.toNat < 128) :
 FnS Tryz.prog 261 [.string s] i L fun r i' L' => r = .string ⟨(Lib.toLowerA s.data.toList).toArray⟩ ∧ i' = i ∧ L' = L :=
 FnS.below fun w _ => Tryz.strings_ToLower_ascii s w hs ha
theorem con261_ok {G : Nat} : ConOk Tryz.prog G 261 conLower := conLower_ok (by kernel_rfl) fun s i L hs ha => Lower_t s i L hs ha
theorem info60 : ∃ i, Tryz.prog.info? 60 = some i ∧ i.desc = .slice 64 := by
 have h : (Tryz.prog.info? 60).map (·.desc) = some (.slice 64) := by kernel_rfl
 obtain ⟨i, h1, h2⟩ := Option.map_eq_some_iff.1 h
 exact ⟨i, h1, h2⟩
theorem info64 : ∃ i, Tryz.prog.info? 64 = some i := by
 have h : (Tryz.prog.info? 64).isSome = true := by kernel_rfl
 exact Option.isSome_iff_exists.1 h
theorem kind64 (w : World) : (Extern.Rtype.kind 64).run Tryz.prog w = .ok 25 w := by kernel_rfl
theorem swap1 : Tryz.prog.funcs.findIdx? (·.name == "internal/reflectlite.Swapper$1") = some 201 := by kernel_rfl
theorem swap2 : Tryz.prog.funcs.findIdx? (·.name == "internal/reflectlite.Swapper$2") = some 202 := by kernel_rfl
theorem Sort_t (p : Option Addr) (l c : Nat) (lf : Fn) (la lb : Array Value) (i : Imm) (L : SH) (h : l ≤ 1) :
 FnS Tryz.prog 109 [.iface 60 (.slice p l c), .func lf la lb] i L fun r i' L' => r = .tuple #[] ∧ i' = i ∧ L' = L := by
 obtain ⟨i60, h1, h2⟩ := info60
 obtain ⟨i64, h3⟩ := info64
 refine FnS.below fun w _ => ?_
 have hf : ∃ f, Tryz.prog.funcs.findIdx? (·.name == "internal/reflectlite" ++ ".Swapper$" ++ toString (swapperK l i64 25)) = some f := by
  match l, h with
  | 0, _ =>
    rw [show "internal/reflectlite" ++ ".Swapper$" ++ toString (swapperK 0 i64 25) = "internal/reflectlite.Swapper$1" from (by decide : "internal/reflectlite" ++ ".Swapper$" ++ toString 1 = "internal/reflectlite.Swapper$1")]
    exact ⟨_, swap1⟩
  | 1, _ =>
    rw [show "internal/reflectlite" ++ ".Swapper$" ++ toString (swapperK 1 i64 25) = "internal/reflectlite.Swapper$2" from (by decide : "internal/reflectlite" ++ ".Swapper$" ++ toString 2 = "internal/reflectlite.Swapper$2")]
    exact ⟨_, swap2⟩
 obtain ⟨f, hf⟩ := hf
 refine (Any.sort_Slice_tiny Tryz.laysGg6 60 64 i60 i64 h1 h2 (by kernel_rfl) h3 25 kind64 p l c h f hf lf la lb w).mono ?_
 rintro e w' ⟨rfl, os, rfl⟩
 refine ⟨rfl, rfl, rfl, rfl, by show _ ≤ (w.heap ++ os).size; simp, fun b hb => ?_⟩
 show (w.heap ++ os)[b]? = _
 rw [Array.getElem?_append_left hb]
theorem con109_ok {G : Nat} : ConOk Tryz.prog G 109 (conSort 60) := conSort_ok (by kernel_rfl) Sort_t
theorem con296_ok {G : Nat} : ConOk Tryz.prog G 296 conCount := conCount_ok (fn := Tryz.f296) Tryz.func296 (by kernel_rfl) (by kernel_rfl) (by kernel_rfl) (by kernel_rfl)
theorem con300_ok {G : Nat} : ConOk Tryz.prog G 300 conIndexByte := conIndexByte_ok (fn := Tryz.f300) Tryz.func300 (by kernel_rfl) (by kernel_rfl) (by kernel_rfl) (by kernel_rfl)
end Go.Proofs.YtckdkhhpjnefpaaGreatDoor
namespace Go.Proofs.YtckdkhhpjnefpaaGreatDoor
open Go Go.Eng Go.Eng.Ev
noncomputable def ty3 : Nat × TyE := (3, ⟨.int .i64, 1, 8, [.int .i64 0]⟩)
theorem tyok3 : TyE.ok Tryz.prog ty3.1 ty3.2 ∧ TyE.zok Tryz.prog ty3.1 ty3.2 := mkTyF Tryz.underlying3 (by kernel_rfl)
noncomputable def ty4 : Nat × TyE := (4, ⟨.bool, 1, 1, [.bool false]⟩)
theorem tyok4 : TyE.ok Tryz.prog ty4.1 ty4.2 ∧ TyE.zok Tryz.prog ty4.1 ty4.2 := mkTyF Tryz.underlying4 (by kernel_rfl)
noncomputable def ty5 : Nat × TyE := (5, ⟨.int .u8, 1, 1, [.int .u8 0]⟩)
theorem tyok5 : TyE.ok Tryz.prog ty5.1 ty5.2 ∧ TyE.zok Tryz.prog ty5.1 ty5.2 := mkTyF Tryz.underlying5 (by kernel_rfl)
noncomputable def ty9 : Nat × TyE := (9, ⟨.string, 1, 16, [.string ByteArray.empty]⟩)
theorem tyok9 : TyE.ok Tryz.prog ty9.1 ty9.2 ∧ TyE.zok Tryz.prog ty9.1 ty9.2 := mkTyF Tryz.underlying9 (by kernel_rfl)
noncomputable def ty20 : Nat × TyE := (20, ⟨.interface #[], 1, 16, [.nilIface]⟩)
theorem tyok20 : TyE.ok Tryz.prog ty20.1 ty20.2 ∧ TyE.zok Tryz.prog ty20.1 ty20.2 := mkTyF Tryz.underlying20 (by kernel_rfl)
noncomputable def ty21 : Nat × TyE := (21, ⟨.int .i32, 1, 4, [.int .i32 0]⟩)
theorem tyok21 : TyE.ok Tryz.prog ty21.1 ty21.2 ∧ TyE.zok Tryz.prog ty21.1 ty21.2 := mkTyF Tryz.underlying21 (by kernel_rfl)
noncomputable def ty22 : Nat × TyE := (22, ⟨.slice 3, 1, 24, [.slice none 0 0]⟩)
theorem tyok22 : TyE.ok Tryz.prog ty22.1 ty22.2 ∧ TyE.zok Tryz.prog ty22.1 ty22.2 := mkTyF Tryz.underlying22 (by kernel_rfl)
noncomputable def ty26 : Nat × TyE := (26, ⟨.slice 52, 1, 24, [.slice none 0 0]⟩)
theorem tyok26 : TyE.ok Tryz.prog ty26.1 ty26.2 ∧ TyE.zok Tryz.prog ty26.1 ty26.2 := mkTyF Tryz.underlying26 (by kernel_rfl)
noncomputable def ty27 : Nat × TyE := (27, ⟨.slice 60, 1, 24, [.slice none 0 0]⟩)
theorem tyok27 : TyE.ok Tryz.prog ty27.1 ty27.2 ∧ TyE.zok Tryz.prog ty27.1 ty27.2 := mkTyF Tryz.underlying27 (by kernel_rfl)
noncomputable def ty28 : Nat × TyE := (28, ⟨.slice 139, 1, 24, [.slice none 0 0]⟩)
theorem tyok28 : TyE.ok Tryz.prog ty28.1 ty28.2 ∧ TyE.zok Tryz.prog ty28.1 ty28.2 := mkTyF Tryz.underlying28 (by kernel_rfl)
noncomputable def ty29 : Nat × TyE := (29, ⟨.slice 180, 1, 24, [.slice none 0 0]⟩)
theorem tyok29 : TyE.ok Tryz.prog ty29.1 ty29.2 ∧ TyE.zok Tryz.prog ty29.1 ty29.2 := mkTyF Tryz.underlying29 (by kernel_rfl)
noncomputable def ty30 : Nat × TyE := (30, ⟨.slice 9, 1, 24, [.slice none 0 0]⟩)
theorem tyok30 : TyE.ok Tryz.prog ty30.1 ty30.2 ∧ TyE.zok Tryz.prog ty30.1 ty30.2 := mkTyF Tryz.underlying30 (by kernel_rfl)
noncomputable def ty31 : Nat × TyE := (31, ⟨.slice 137, 1, 24, [.slice none 0 0]⟩)
theorem tyok31 : TyE.ok Tryz.prog ty31.1 ty31.2 ∧ TyE.zok Tryz.prog ty31.1 ty31.2 := mkTyF Tryz.underlying31 (by kernel_rfl)
noncomputable def ty33 : Nat × TyE := (33, ⟨.struct #[{ name := "Modules", type := 29, offset := 0, embedded := false, tag := "", pkgPath := "", byteOffset := 0 }, { name := "Blocked", type := 30, offset := 1, embedded := false, tag := "", pkgPath := "", byteOffset := 24 }, { name := "Off", type := 30, offset := 2, embedded := false, tag := "", pkgPath := "", byteOffset := 48 }, { name := "Keep", type := 30, offset := 3, embedded := false, tag := "", pkgPath := "", byteOffset := 72 }, { name := "Extra", type := 31, offset := 4, embedded := false, tag := "", pkgPath := "", byteOffset := 96 }], 5, 120, [.slice none 0 0, .slice none 0 0, .slice none 0 0, .slice none 0 0, .slice none 0 0]⟩)
theorem tyok33 : TyE.ok Tryz.prog ty33.1 ty33.2 ∧ TyE.zok Tryz.prog ty33.1 ty33.2 := mkTyF Tryz.underlying33 (by kernel_rfl)
noncomputable def ty35 : Nat × TyE := (35, ⟨.struct #[{ name := "Dirs", type := 27, offset := 0, embedded := false, tag := "", pkgPath := "", byteOffset := 0 }, { name := "Helpers", type := 28, offset := 1, embedded := false, tag := "", pkgPath := "", byteOffset := 24 }, { name := "Config", type := 33, offset := 2, embedded := false, tag := "", pkgPath := "", byteOffset := 48 }, { name := "Policy", type := 30, offset := 7, embedded := false, tag := "", pkgPath := "", byteOffset := 168 }, { name := "Limit", type := 3, offset := 8, embedded := false, tag := "", pkgPath := "", byteOffset := 192 }], 9, 200, [.slice none 0 0, .slice none 0 0, .slice none 0 0, .slice none 0 0, .slice none 0 0, .slice none 0 0, .slice none 0 0, .slice none 0 0, .int .i64 0]⟩)
theorem tyok35 : TyE.ok Tryz.prog ty35.1 ty35.2 ∧ TyE.zok Tryz.prog ty35.1 ty35.2 := mkTyF Tryz.underlying35 (by kernel_rfl)
noncomputable def ty44 : Nat × TyE := (44, ⟨.slice 56, 1, 24, [.slice none 0 0]⟩)
theorem tyok44 : TyE.ok Tryz.prog ty44.1 ty44.2 ∧ TyE.zok Tryz.prog ty44.1 ty44.2 := mkTyF Tryz.underlying44 (by kernel_rfl)
noncomputable def ty46 : Nat × TyE := (46, ⟨.struct #[{ name := "Devices", type := 44, offset := 0, embedded := false, tag := "", pkgPath := "", byteOffset := 0 }], 1, 24, [.slice none 0 0]⟩)
theorem tyok46 : TyE.ok Tryz.prog ty46.1 ty46.2 ∧ TyE.zok Tryz.prog ty46.1 ty46.2 := mkTyF Tryz.underlying46 (by kernel_rfl)
noncomputable def ty50 : Nat × TyE := (50, ⟨.slice 54, 1, 24, [.slice none 0 0]⟩)
theorem tyok50 : TyE.ok Tryz.prog ty50.1 ty50.2 ∧ TyE.zok Tryz.prog ty50.1 ty50.2 := mkTyF Tryz.underlying50 (by kernel_rfl)
noncomputable def ty52 : Nat × TyE := (52, ⟨.struct #[{ name := "File", type := 9, offset := 0, embedded := false, tag := "", pkgPath := "", byteOffset := 0 }, { name := "Line", type := 3, offset := 1, embedded := false, tag := "", pkgPath := "", byteOffset := 16 }, { name := "Terms", type := 50, offset := 2, embedded := false, tag := "", pkgPath := "", byteOffset := 24 }], 3, 48, [.string ByteArray.empty, .int .i64 0, .slice none 0 0]⟩)
theorem tyok52 : TyE.ok Tryz.prog ty52.1 ty52.2 ∧ TyE.zok Tryz.prog ty52.1 ty52.2 := mkTyF Tryz.underlying52 (by kernel_rfl)
noncomputable def ty54 : Nat × TyE := (54, ⟨.struct #[{ name := "Key", type := 3, offset := 0, embedded := false, tag := "", pkgPath := "", byteOffset := 0 }, { name := "Name", type := 9, offset := 1, embedded := false, tag := "", pkgPath := "", byteOffset := 8 }, { name := "Op", type := 3, offset := 2, embedded := false, tag := "", pkgPath := "", byteOffset := 24 }, { name := "Value", type := 9, offset := 3, embedded := false, tag := "", pkgPath := "", byteOffset := 32 }], 4, 48, [.int .i64 0, .string ByteArray.empty, .int .i64 0, .string ByteArray.empty]⟩)
theorem tyok54 : TyE.ok Tryz.prog ty54.1 ty54.2 ∧ TyE.zok Tryz.prog ty54.1 ty54.2 := mkTyF Tryz.underlying54 (by kernel_rfl)
noncomputable def ty56 : Nat × TyE := (56, ⟨.struct #[{ name := "Index", type := 3, offset := 0, embedded := false, tag := "", pkgPath := "", byteOffset := 0 }, { name := "Parent", type := 3, offset := 1, embedded := false, tag := "", pkgPath := "", byteOffset := 8 }, { name := "Name", type := 9, offset := 2, embedded := false, tag := "", pkgPath := "", byteOffset := 16 }, { name := "Original", type := 9, offset := 3, embedded := false, tag := "", pkgPath := "", byteOffset := 32 }, { name := "Subsystem", type := 9, offset := 4, embedded := false, tag := "", pkgPath := "", byteOffset := 48 }, { name := "Driver", type := 9, offset := 5, embedded := false, tag := "", pkgPath := "", byteOffset := 64 }, { name := "Alias", type := 9, offset := 6, embedded := false, tag := "", pkgPath := "", byteOffset := 80 }, { name := "Kind", type := 3, offset := 7, embedded := false, tag := "", pkgPath := "", byteOffset := 96 }, { name := "Number", type := 3, offset := 8, embedded := false, tag := "", pkgPath := "", byteOffset := 104 }, { name := "Attrs", type := 31, offset := 9, embedded := false, tag := "", pkgPath := "", byteOffset := 112 }], 10, 136, [.int .i64 0, .int .i64 0, .string ByteArray.empty, .string ByteArray.empty, .string ByteArray.empty, .string ByteArray.empty, .string ByteArray.empty, .int .i64 0, .int .i64 0, .slice none 0 0]⟩)
theorem tyok56 : TyE.ok Tryz.prog ty56.1 ty56.2 ∧ TyE.zok Tryz.prog ty56.1 ty56.2 := mkTyF Tryz.underlying56 (by kernel_rfl)
noncomputable def ty60 : Nat × TyE := (60, ⟨.slice 64, 1, 24, [.slice none 0 0]⟩)
theorem tyok60 : TyE.ok Tryz.prog ty60.1 ty60.2 ∧ TyE.zok Tryz.prog ty60.1 ty60.2 := mkTyF Tryz.underlying60 (by kernel_rfl)
noncomputable def ty64 : Nat × TyE := (64, ⟨.struct #[{ name := "Name", type := 9, offset := 0, embedded := false, tag := "", pkgPath := "", byteOffset := 0 }, { name := "Text", type := 9, offset := 1, embedded := false, tag := "", pkgPath := "", byteOffset := 16 }], 2, 32, [.string ByteArray.empty, .string ByteArray.empty]⟩)
theorem tyok64 : TyE.ok Tryz.prog ty64.1 ty64.2 ∧ TyE.zok Tryz.prog ty64.1 ty64.2 := mkTyF Tryz.underlying64 (by kernel_rfl)
noncomputable def ty66 : Nat × TyE := (66, ⟨.slice 155, 1, 24, [.slice none 0 0]⟩)
theorem tyok66 : TyE.ok Tryz.prog ty66.1 ty66.2 ∧ TyE.zok Tryz.prog ty66.1 ty66.2 := mkTyF Tryz.underlying66 (by kernel_rfl)
noncomputable def ty67 : Nat × TyE := (67, ⟨.int .i64, 1, 8, [.int .i64 0]⟩)
theorem tyok67 : TyE.ok Tryz.prog ty67.1 ty67.2 ∧ TyE.zok Tryz.prog ty67.1 ty67.2 := mkTyF Tryz.underlying67 (by kernel_rfl)
noncomputable def ty70 : Nat × TyE := (70, ⟨.func #[3] #[52] false, 1, 8, [.nilFunc]⟩)
theorem tyok70 : TyE.ok Tryz.prog ty70.1 ty70.2 ∧ TyE.zok Tryz.prog ty70.1 ty70.2 := mkTyF Tryz.underlying70 (by kernel_rfl)
noncomputable def ty83 : Nat × TyE := (83, ⟨.func #[54] #[4] false, 1, 8, [.nilFunc]⟩)
theorem tyok83 : TyE.ok Tryz.prog ty83.1 ty83.2 ∧ TyE.zok Tryz.prog ty83.1 ty83.2 := mkTyF Tryz.underlying83 (by kernel_rfl)
noncomputable def ty84 : Nat × TyE := (84, ⟨.func #[52] #[4] false, 1, 8, [.nilFunc]⟩)
theorem tyok84 : TyE.ok Tryz.prog ty84.1 ty84.2 ∧ TyE.zok Tryz.prog ty84.1 ty84.2 := mkTyF Tryz.underlying84 (by kernel_rfl)
noncomputable def ty86 : Nat × TyE := (86, ⟨.pointer 120, 1, 8, [.pointer none]⟩)
theorem tyok86 : TyE.ok Tryz.prog ty86.1 ty86.2 ∧ TyE.zok Tryz.prog ty86.1 ty86.2 := mkTyF Tryz.underlying86 (by kernel_rfl)
noncomputable def ty105 : Nat × TyE := (105, ⟨.slice 26, 1, 24, [.slice none 0 0]⟩)
theorem tyok105 : TyE.ok Tryz.prog ty105.1 ty105.2 ∧ TyE.zok Tryz.prog ty105.1 ty105.2 := mkTyF Tryz.underlying105 (by kernel_rfl)
noncomputable def ty117 : Nat × TyE := (117, ⟨.map 9 22, 1, 8, [.map none]⟩)
theorem tyok117 : TyE.ok Tryz.prog ty117.1 ty117.2 ∧ TyE.zok Tryz.prog ty117.1 ty117.2 := mkTyF Tryz.underlying117 (by kernel_rfl)
noncomputable def ty118 : Nat × TyE := (118, ⟨.slice 50, 1, 24, [.slice none 0 0]⟩)
theorem tyok118 : TyE.ok Tryz.prog ty118.1 ty118.2 ∧ TyE.zok Tryz.prog ty118.1 ty118.2 := mkTyF Tryz.underlying118 (by kernel_rfl)
noncomputable def ty120 : Nat × TyE := (120, ⟨.struct #[{ name := "rules", type := 26, offset := 0, embedded := false, tag := "", pkgPath := "coldplug/compile", byteOffset := 0 }, { name := "fronts", type := 118, offset := 1, embedded := false, tag := "", pkgPath := "coldplug/compile", byteOffset := 24 }, { name := "keyed", type := 117, offset := 2, embedded := false, tag := "", pkgPath := "coldplug/compile", byteOffset := 48 }, { name := "general", type := 22, offset := 3, embedded := false, tag := "", pkgPath := "coldplug/compile", byteOffset := 56 }, { name := "labels", type := 22, offset := 4, embedded := false, tag := "", pkgPath := "coldplug/compile", byteOffset := 80 }], 5, 104, [.slice none 0 0, .slice none 0 0, .map none, .slice none 0 0, .slice none 0 0]⟩)
theorem tyok120 : TyE.ok Tryz.prog ty120.1 ty120.2 ∧ TyE.zok Tryz.prog ty120.1 ty120.2 := mkTyF Tryz.underlying120 (by kernel_rfl)
noncomputable def ty127 : Nat × TyE := (127, ⟨.func #[3] #[4] false, 1, 8, [.nilFunc]⟩)
theorem tyok127 : TyE.ok Tryz.prog ty127.1 ty127.2 ∧ TyE.zok Tryz.prog ty127.1 ty127.2 := mkTyF Tryz.underlying127 (by kernel_rfl)
noncomputable def ty132 : Nat × TyE := (132, ⟨.map 3 177, 1, 8, [.map none]⟩)
theorem tyok132 : TyE.ok Tryz.prog ty132.1 ty132.2 ∧ TyE.zok Tryz.prog ty132.1 ty132.2 := mkTyF Tryz.underlying132 (by kernel_rfl)
noncomputable def ty137 : Nat × TyE := (137, ⟨.struct #[{ name := "Name", type := 9, offset := 0, embedded := false, tag := "", pkgPath := "", byteOffset := 0 }, { name := "Value", type := 9, offset := 1, embedded := false, tag := "", pkgPath := "", byteOffset := 16 }], 2, 32, [.string ByteArray.empty, .string ByteArray.empty]⟩)
theorem tyok137 : TyE.ok Tryz.prog ty137.1 ty137.2 ∧ TyE.zok Tryz.prog ty137.1 ty137.2 := mkTyF Tryz.underlying137 (by kernel_rfl)
noncomputable def ty139 : Nat × TyE := (139, ⟨.struct #[{ name := "Command", type := 9, offset := 0, embedded := false, tag := "", pkgPath := "", byteOffset := 0 }, { name := "Output", type := 9, offset := 1, embedded := false, tag := "", pkgPath := "", byteOffset := 16 }, { name := "Fails", type := 4, offset := 2, embedded := false, tag := "", pkgPath := "", byteOffset := 32 }, { name := "Ticks", type := 3, offset := 3, embedded := false, tag := "", pkgPath := "", byteOffset := 40 }], 4, 48, [.string ByteArray.empty, .string ByteArray.empty, .bool false, .int .i64 0]⟩)
theorem tyok139 : TyE.ok Tryz.prog ty139.1 ty139.2 ∧ TyE.zok Tryz.prog ty139.1 ty139.2 := mkTyF Tryz.underlying139 (by kernel_rfl)
noncomputable def ty141 : Nat × TyE := (141, ⟨.slice 143, 1, 24, [.slice none 0 0]⟩)
theorem tyok141 : TyE.ok Tryz.prog ty141.1 ty141.2 ∧ TyE.zok Tryz.prog ty141.1 ty141.2 := mkTyF Tryz.underlying141 (by kernel_rfl)
noncomputable def ty143 : Nat × TyE := (143, ⟨.struct #[{ name := "Key", type := 9, offset := 0, embedded := false, tag := "", pkgPath := "", byteOffset := 0 }, { name := "Name", type := 9, offset := 1, embedded := false, tag := "", pkgPath := "", byteOffset := 16 }, { name := "Op", type := 9, offset := 2, embedded := false, tag := "", pkgPath := "", byteOffset := 32 }, { name := "Value", type := 9, offset := 3, embedded := false, tag := "", pkgPath := "", byteOffset := 48 }], 4, 64, [.string ByteArray.empty, .string ByteArray.empty, .string ByteArray.empty, .string ByteArray.empty]⟩)
theorem tyok143 : TyE.ok Tryz.prog ty143.1 ty143.2 ∧ TyE.zok Tryz.prog ty143.1 ty143.2 := mkTyF Tryz.underlying143 (by kernel_rfl)
noncomputable def ty146 : Nat × TyE := (146, ⟨.func #[9] #[4] false, 1, 8, [.nilFunc]⟩)
theorem tyok146 : TyE.ok Tryz.prog ty146.1 ty146.2 ∧ TyE.zok Tryz.prog ty146.1 ty146.2 := mkTyF Tryz.underlying146 (by kernel_rfl)
noncomputable def ty155 : Nat × TyE := (155, ⟨.struct #[{ name := "File", type := 9, offset := 0, embedded := false, tag := "", pkgPath := "", byteOffset := 0 }, { name := "Line", type := 3, offset := 1, embedded := false, tag := "", pkgPath := "", byteOffset := 16 }, { name := "Errno", type := 67, offset := 2, embedded := false, tag := "", pkgPath := "", byteOffset := 24 }], 3, 32, [.string ByteArray.empty, .int .i64 0, .int .i64 0]⟩)
theorem tyok155 : TyE.ok Tryz.prog ty155.1 ty155.2 ∧ TyE.zok Tryz.prog ty155.1 ty155.2 := mkTyF Tryz.underlying155 (by kernel_rfl)
noncomputable def ty158 : Nat × TyE := (158, ⟨.map 9 9, 1, 8, [.map none]⟩)
theorem tyok158 : TyE.ok Tryz.prog ty158.1 ty158.2 ∧ TyE.zok Tryz.prog ty158.1 ty158.2 := mkTyF Tryz.underlying158 (by kernel_rfl)
noncomputable def ty163 : Nat × TyE := (163, ⟨.func #[3, 3] #[4] false, 1, 8, [.nilFunc]⟩)
theorem tyok163 : TyE.ok Tryz.prog ty163.1 ty163.2 ∧ TyE.zok Tryz.prog ty163.1 ty163.2 := mkTyF Tryz.underlying163 (by kernel_rfl)
noncomputable def ty171 : Nat × TyE := (171, ⟨.func #[54, 56] #[9] false, 1, 8, [.nilFunc]⟩)
theorem tyok171 : TyE.ok Tryz.prog ty171.1 ty171.2 ∧ TyE.zok Tryz.prog ty171.1 ty171.2 := mkTyF Tryz.underlying171 (by kernel_rfl)
noncomputable def ty173 : Nat × TyE := (173, ⟨.struct #[{ name := "static", type := 4, offset := 0, embedded := false, tag := "", pkgPath := "coldplug/match", byteOffset := 0 }, { name := "upward", type := 4, offset := 1, embedded := false, tag := "", pkgPath := "coldplug/match", byteOffset := 1 }, { name := "value", type := 171, offset := 2, embedded := false, tag := "", pkgPath := "coldplug/match", byteOffset := 8 }], 3, 16, [.bool false, .bool false, .nilFunc]⟩)
theorem tyok173 : TyE.ok Tryz.prog ty173.1 ty173.2 ∧ TyE.zok Tryz.prog ty173.1 ty173.2 := mkTyF Tryz.underlying173 (by kernel_rfl)
noncomputable def ty177 : Nat × TyE := (177, ⟨.struct #[], 0, 0, []⟩)
theorem tyok177 : TyE.ok Tryz.prog ty177.1 ty177.2 ∧ TyE.zok Tryz.prog ty177.1 ty177.2 := mkTyF Tryz.underlying177 (by kernel_rfl)
noncomputable def ty180 : Nat × TyE := (180, ⟨.struct #[{ name := "Name", type := 9, offset := 0, embedded := false, tag := "", pkgPath := "", byteOffset := 0 }, { name := "Aliases", type := 30, offset := 1, embedded := false, tag := "", pkgPath := "", byteOffset := 16 }, { name := "Needs", type := 30, offset := 2, embedded := false, tag := "", pkgPath := "", byteOffset := 40 }, { name := "Pre", type := 30, offset := 3, embedded := false, tag := "", pkgPath := "", byteOffset := 64 }, { name := "Post", type := 30, offset := 4, embedded := false, tag := "", pkgPath := "", byteOffset := 88 }, { name := "Fails", type := 4, offset := 5, embedded := false, tag := "", pkgPath := "", byteOffset := 112 }], 6, 120, [.string ByteArray.empty, .slice none 0 0, .slice none 0 0, .slice none 0 0, .slice none 0 0, .bool false]⟩)
theorem tyok180 : TyE.ok Tryz.prog ty180.1 ty180.2 ∧ TyE.zok Tryz.prog ty180.1 ty180.2 := mkTyF Tryz.underlying180 (by kernel_rfl)
noncomputable def ty186 : Nat × TyE := (186, ⟨.slice 191, 1, 24, [.slice none 0 0]⟩)
theorem tyok186 : TyE.ok Tryz.prog ty186.1 ty186.2 ∧ TyE.zok Tryz.prog ty186.1 ty186.2 := mkTyF Tryz.underlying186 (by kernel_rfl)
noncomputable def ty191 : Nat × TyE := (191, ⟨.struct #[{ name := "Number", type := 3, offset := 0, embedded := false, tag := "", pkgPath := "", byteOffset := 0 }, { name := "Text", type := 9, offset := 1, embedded := false, tag := "", pkgPath := "", byteOffset := 8 }], 2, 24, [.int .i64 0, .string ByteArray.empty]⟩)
theorem tyok191 : TyE.ok Tryz.prog ty191.1 ty191.2 ∧ TyE.zok Tryz.prog ty191.1 ty191.2 := mkTyF Tryz.underlying191 (by kernel_rfl)
noncomputable def ty193 : Nat × TyE := (193, ⟨.map 9 4, 1, 8, [.map none]⟩)
theorem tyok193 : TyE.ok Tryz.prog ty193.1 ty193.2 ∧ TyE.zok Tryz.prog ty193.1 ty193.2 := mkTyF Tryz.underlying193 (by kernel_rfl)
noncomputable def ty196 : Nat × TyE := (196, ⟨.func #[139] #[4] false, 1, 8, [.nilFunc]⟩)
theorem tyok196 : TyE.ok Tryz.prog ty196.1 ty196.2 ∧ TyE.zok Tryz.prog ty196.1 ty196.2 := mkTyF Tryz.underlying196 (by kernel_rfl)
noncomputable def ty197 : Nat × TyE := (197, ⟨.pointer 253, 1, 8, [.pointer none]⟩)
theorem tyok197 : TyE.ok Tryz.prog ty197.1 ty197.2 ∧ TyE.zok Tryz.prog ty197.1 ty197.2 := mkTyF Tryz.underlying197 (by kernel_rfl)
noncomputable def ty202 : Nat × TyE := (202, ⟨.array 256 4, 256, 256, List.replicate 256 (.bool false)⟩)
theorem tyok202 : TyE.ok Tryz.prog ty202.1 ty202.2 ∧ TyE.zok Tryz.prog ty202.1 ty202.2 := mkTyF Tryz.underlying202 (by kernel_rfl)
noncomputable def ty226 : Nat × TyE := (226, ⟨.slice 230, 1, 24, [.slice none 0 0]⟩)
theorem tyok226 : TyE.ok Tryz.prog ty226.1 ty226.2 ∧ TyE.zok Tryz.prog ty226.1 ty226.2 := mkTyF Tryz.underlying226 (by kernel_rfl)
noncomputable def ty230 : Nat × TyE := (230, ⟨.slice 293, 1, 24, [.slice none 0 0]⟩)
theorem tyok230 : TyE.ok Tryz.prog ty230.1 ty230.2 ∧ TyE.zok Tryz.prog ty230.1 ty230.2 := mkTyF Tryz.underlying230 (by kernel_rfl)
noncomputable def ty231 : Nat × TyE := (231, ⟨.array 25 173, 75, 400, [.bool false, .bool false, .nilFunc, .bool false, .bool false, .nilFunc, .bool false, .bool false, .nilFunc, .bool false, .bool false, .nilFunc, .bool false, .bool false, .nilFunc, .bool false, .bool false, .nilFunc, .bool false, .bool false, .nilFunc, .bool false, .bool false, .nilFunc, .bool false, .bool false, .nilFunc, .bool false, .bool false, .nilFunc, .bool false, .bool false, .nilFunc, .bool false, .bool false, .nilFunc, .bool false, .bool false, .nilFunc, .bool false, .bool false, .nilFunc, .bool false, .bool false, .nilFunc, .bool false, .bool false, .nilFunc, .bool false, .bool false, .nilFunc, .bool false, .bool false, .nilFunc, .bool false, .bool false, .nilFunc, .bool false, .bool false, .nilFunc, .bool false, .bool false, .nilFunc, .bool false, .bool false, .nilFunc, .bool false, .bool false, .nilFunc, .bool false, .bool false, .nilFunc, .bool false, .bool false, .nilFunc]⟩)
theorem tyok231 : TyE.ok Tryz.prog ty231.1 ty231.2 ∧ TyE.zok Tryz.prog ty231.1 ty231.2 := mkTyF Tryz.underlying231 (by kernel_rfl)
noncomputable def ty236 : Nat × TyE := (236, ⟨.func #[5] #[4] false, 1, 8, [.nilFunc]⟩)
theorem tyok236 : TyE.ok Tryz.prog ty236.1 ty236.2 ∧ TyE.zok Tryz.prog ty236.1 ty236.2 := mkTyF Tryz.underlying236 (by kernel_rfl)
noncomputable def ty251 : Nat × TyE := (251, ⟨.slice 452, 1, 24, [.slice none 0 0]⟩)
theorem tyok251 : TyE.ok Tryz.prog ty251.1 ty251.2 ∧ TyE.zok Tryz.prog ty251.1 ty251.2 := mkTyF Tryz.underlying251 (by kernel_rfl)
noncomputable def ty253 : Nat × TyE := (253, ⟨.struct #[{ name := "tree", type := 46, offset := 0, embedded := false, tag := "", pkgPath := "coldplug/kernel", byteOffset := 0 }, { name := "modules", type := 29, offset := 1, embedded := false, tag := "", pkgPath := "coldplug/kernel", byteOffset := 24 }, { name := "loaded", type := 30, offset := 2, embedded := false, tag := "", pkgPath := "coldplug/kernel", byteOffset := 48 }, { name := "events", type := 251, offset := 3, embedded := false, tag := "", pkgPath := "coldplug/kernel", byteOffset := 72 }, { name := "indexes", type := 3, offset := 4, embedded := false, tag := "", pkgPath := "coldplug/kernel", byteOffset := 96 }], 5, 104, [.slice none 0 0, .slice none 0 0, .slice none 0 0, .slice none 0 0, .int .i64 0]⟩)
theorem tyok253 : TyE.ok Tryz.prog ty253.1 ty253.2 ∧ TyE.zok Tryz.prog ty253.1 ty253.2 := mkTyF Tryz.underlying253 (by kernel_rfl)
noncomputable def ty275 : Nat × TyE := (275, ⟨.struct #[{ name := "word", type := 9, offset := 0, embedded := false, tag := "", pkgPath := "coldplug/grammar", byteOffset := 0 }, { name := "named", type := 146, offset := 1, embedded := false, tag := "", pkgPath := "coldplug/grammar", byteOffset := 16 }, { name := "assigns", type := 22, offset := 2, embedded := false, tag := "", pkgPath := "coldplug/grammar", byteOffset := 24 }, { name := "matches", type := 83, offset := 3, embedded := false, tag := "", pkgPath := "coldplug/grammar", byteOffset := 48 }, { name := "value", type := 146, offset := 4, embedded := false, tag := "", pkgPath := "coldplug/grammar", byteOffset := 56 }], 5, 64, [.string ByteArray.empty, .nilFunc, .slice none 0 0, .nilFunc, .nilFunc]⟩)
theorem tyok275 : TyE.ok Tryz.prog ty275.1 ty275.2 ∧ TyE.zok Tryz.prog ty275.1 ty275.2 := mkTyF Tryz.underlying275 (by kernel_rfl)
noncomputable def ty276 : Nat × TyE := (276, ⟨.array 25 275, 125, 1600, [.string ByteArray.empty, .nilFunc, .slice none 0 0, .nilFunc, .nilFunc, .string ByteArray.empty, .nilFunc, .slice none 0 0, .nilFunc, .nilFunc, .string ByteArray.empty, .nilFunc, .slice none 0 0, .nilFunc, .nilFunc, .string ByteArray.empty, .nilFunc, .slice none 0 0, .nilFunc, .nilFunc, .string ByteArray.empty, .nilFunc, .slice none 0 0, .nilFunc, .nilFunc, .string ByteArray.empty, .nilFunc, .slice none 0 0, .nilFunc, .nilFunc, .string ByteArray.empty, .nilFunc, .slice none 0 0, .nilFunc, .nilFunc, .string ByteArray.empty, .nilFunc, .slice none 0 0, .nilFunc, .nilFunc, .string ByteArray.empty, .nilFunc, .slice none 0 0, .nilFunc, .nilFunc, .string ByteArray.empty, .nilFunc, .slice none 0 0, .nilFunc, .nilFunc, .string ByteArray.empty, .nilFunc, .slice none 0 0, .nilFunc, .nilFunc, .string ByteArray.empty, .nilFunc, .slice none 0 0, .nilFunc, .nilFunc, .string ByteArray.empty, .nilFunc, .slice none 0 0, .nilFunc, .nilFunc, .string ByteArray.empty, .nilFunc, .slice none 0 0, .nilFunc, .nilFunc, .string ByteArray.empty, .nilFunc, .slice none 0 0, .nilFunc, .nilFunc, .string ByteArray.empty, .nilFunc, .slice none 0 0, .nilFunc, .nilFunc, .string ByteArray.empty, .nilFunc, .slice none 0 0, .nilFunc, .nilFunc, .string ByteArray.empty, .nilFunc, .slice none 0 0, .nilFunc, .nilFunc, .string ByteArray.empty, .nilFunc, .slice none 0 0, .nilFunc, .nilFunc, .string ByteArray.empty, .nilFunc, .slice none 0 0, .nilFunc, .nilFunc, .string ByteArray.empty, .nilFunc, .slice none 0 0, .nilFunc, .nilFunc, .string ByteArray.empty, .nilFunc, .slice none 0 0, .nilFunc, .nilFunc, .string ByteArray.empty, .nilFunc, .slice none 0 0, .nilFunc, .nilFunc, .string ByteArray.empty, .nilFunc, .slice none 0 0, .nilFunc, .nilFunc, .string ByteArray.empty, .nilFunc, .slice none 0 0, .nilFunc, .nilFunc]⟩)
theorem tyok276 : TyE.ok Tryz.prog ty276.1 ty276.2 ∧ TyE.zok Tryz.prog ty276.1 ty276.2 := mkTyF Tryz.underlying276 (by kernel_rfl)
noncomputable def ty279 : Nat × TyE := (279, ⟨.slice 275, 1, 24, [.slice none 0 0]⟩)
theorem tyok279 : TyE.ok Tryz.prog ty279.1 ty279.2 ∧ TyE.zok Tryz.prog ty279.1 ty279.2 := mkTyF Tryz.underlying279 (by kernel_rfl)
noncomputable def ty280 : Nat × TyE := (280, ⟨.func #[275] #[4] false, 1, 8, [.nilFunc]⟩)
theorem tyok280 : TyE.ok Tryz.prog ty280.1 ty280.2 ∧ TyE.zok Tryz.prog ty280.1 ty280.2 := mkTyF Tryz.underlying280 (by kernel_rfl)
noncomputable def ty284 : Nat × TyE := (284, ⟨.pointer 286, 1, 8, [.pointer none]⟩)
theorem tyok284 : TyE.ok Tryz.prog ty284.1 ty284.2 ∧ TyE.zok Tryz.prog ty284.1 ty284.2 := mkTyF Tryz.underlying284 (by kernel_rfl)
noncomputable def ty286 : Nat × TyE := (286, ⟨.struct #[{ name := "p", type := 9, offset := 0, embedded := false, tag := "", pkgPath := "coldplug/glob", byteOffset := 0 }, { name := "at", type := 3, offset := 1, embedded := false, tag := "", pkgPath := "coldplug/glob", byteOffset := 16 }], 2, 24, [.string ByteArray.empty, .int .i64 0]⟩)
theorem tyok286 : TyE.ok Tryz.prog ty286.1 ty286.2 ∧ TyE.zok Tryz.prog ty286.1 ty286.2 := mkTyF Tryz.underlying286 (by kernel_rfl)
noncomputable def ty289 : Nat × TyE := (289, ⟨.slice 5, 1, 24, [.slice none 0 0]⟩)
theorem tyok289 : TyE.ok Tryz.prog ty289.1 ty289.2 ∧ TyE.zok Tryz.prog ty289.1 ty289.2 := mkTyF Tryz.underlying289 (by kernel_rfl)
noncomputable def ty291 : Nat × TyE := (291, ⟨.array 127 4, 127, 127, List.replicate 127 (.bool false)⟩)
theorem tyok291 : TyE.ok Tryz.prog ty291.1 ty291.2 ∧ TyE.zok Tryz.prog ty291.1 ty291.2 := mkTyF Tryz.underlying291 (by kernel_rfl)
noncomputable def ty293 : Nat × TyE := (293, ⟨.struct #[{ name := "literal", type := 5, offset := 0, embedded := false, tag := "", pkgPath := "coldplug/glob", byteOffset := 0 }, { name := "star", type := 4, offset := 1, embedded := false, tag := "", pkgPath := "coldplug/glob", byteOffset := 1 }, { name := "bytes", type := 291, offset := 2, embedded := false, tag := "", pkgPath := "coldplug/glob", byteOffset := 2 }], 129, 129, [.int .u8 0, .bool false, .bool false, .bool false, .bool false, .bool false, .bool false, .bool false, .bool false, .bool false, .bool false, .bool false, .bool false, .bool false, .bool false, .bool false, .bool false, .bool false, .bool false, .bool false, .bool false, .bool false, .bool false, .bool false, .bool false, .bool false, .bool false, .bool false, .bool false, .bool false, .bool false, .bool false, .bool false, .bool false, .bool false, .bool false, .bool false, .bool false, .bool false, .bool false, .bool false, .bool false, .bool false, .bool false, .bool false, .bool false, .bool false, .bool false, .bool false, .bool false, .bool false, .bool false, .bool false, .bool false, .bool false, .bool false, .bool false, .bool false, .bool false, .bool false, .bool false, .bool false, .bool false, .bool false, .bool false, .bool false, .bool false, .bool false, .bool false, .bool false, .bool false, .bool false, .bool false, .bool false, .bool false, .bool false, .bool false, .bool false, .bool false, .bool false, .bool false, .bool false, .bool false, .bool false, .bool false, .bool false, .bool false, .bool false, .bool false, .bool false, .bool false, .bool false, .bool false, .bool false, .bool false, .bool false, .bool false, .bool false, .bool false, .bool false, .bool false, .bool false, .bool false, .bool false, .bool false, .bool false, .bool false, .bool false, .bool false, .bool false, .bool false, .bool false, .bool false, .bool false, .bool false, .bool false, .bool false, .bool false, .bool false, .bool false, .bool false, .bool false, .bool false, .bool false, .bool false, .bool false, .bool false, .bool false, .bool false]⟩)
theorem tyok293 : TyE.ok Tryz.prog ty293.1 ty293.2 ∧ TyE.zok Tryz.prog ty293.1 ty293.2 := mkTyF Tryz.underlying293 (by kernel_rfl)
noncomputable def ty298 : Nat × TyE := (298, ⟨.slice 347, 1, 24, [.slice none 0 0]⟩)
theorem tyok298 : TyE.ok Tryz.prog ty298.1 ty298.2 ∧ TyE.zok Tryz.prog ty298.1 ty298.2 := mkTyF Tryz.underlying298 (by kernel_rfl)
noncomputable def ty318 : Nat × TyE := (318, ⟨.array 256 4, 256, 256, List.replicate 256 (.bool false)⟩)
theorem tyok318 : TyE.ok Tryz.prog ty318.1 ty318.2 ∧ TyE.zok Tryz.prog ty318.1 ty318.2 := mkTyF Tryz.underlying318 (by kernel_rfl)
noncomputable def ty322 : Nat × TyE := (322, ⟨.pointer 318, 1, 8, [.pointer none]⟩)
theorem tyok322 : TyE.ok Tryz.prog ty322.1 ty322.2 ∧ TyE.zok Tryz.prog ty322.1 ty322.2 := mkTyF Tryz.underlying322 (by kernel_rfl)
noncomputable def ty347 : Nat × TyE := (347, ⟨.struct #[{ name := "Kind", type := 3, offset := 0, embedded := false, tag := "", pkgPath := "", byteOffset := 0 }, { name := "Text", type := 9, offset := 1, embedded := false, tag := "", pkgPath := "", byteOffset := 8 }, { name := "Word", type := 3, offset := 2, embedded := false, tag := "", pkgPath := "", byteOffset := 24 }, { name := "More", type := 4, offset := 3, embedded := false, tag := "", pkgPath := "", byteOffset := 32 }], 4, 40, [.int .i64 0, .string ByteArray.empty, .int .i64 0, .bool false]⟩)
theorem tyok347 : TyE.ok Tryz.prog ty347.1 ty347.2 ∧ TyE.zok Tryz.prog ty347.1 ty347.2 := mkTyF Tryz.underlying347 (by kernel_rfl)
noncomputable def ty393 : Nat × TyE := (393, ⟨.pointer 395, 1, 8, [.pointer none]⟩)
theorem tyok393 : TyE.ok Tryz.prog ty393.1 ty393.2 ∧ TyE.zok Tryz.prog ty393.1 ty393.2 := mkTyF Tryz.underlying393 (by kernel_rfl)
noncomputable def ty395 : Nat × TyE := (395, ⟨.struct #[{ name := "rest", type := 9, offset := 0, embedded := false, tag := "", pkgPath := "coldplug/substitute", byteOffset := 0 }, { name := "pieces", type := 298, offset := 1, embedded := false, tag := "", pkgPath := "coldplug/substitute", byteOffset := 16 }], 2, 40, [.string ByteArray.empty, .slice none 0 0]⟩)
theorem tyok395 : TyE.ok Tryz.prog ty395.1 ty395.2 ∧ TyE.zok Tryz.prog ty395.1 ty395.2 := mkTyF Tryz.underlying395 (by kernel_rfl)
noncomputable def ty452 : Nat × TyE := (452, ⟨.struct #[{ name := "Seq", type := 3, offset := 0, embedded := false, tag := "", pkgPath := "", byteOffset := 0 }, { name := "Action", type := 3, offset := 1, embedded := false, tag := "", pkgPath := "", byteOffset := 8 }, { name := "Index", type := 3, offset := 2, embedded := false, tag := "", pkgPath := "", byteOffset := 16 }, { name := "Path", type := 9, offset := 3, embedded := false, tag := "", pkgPath := "", byteOffset := 24 }, { name := "Old", type := 9, offset := 4, embedded := false, tag := "", pkgPath := "", byteOffset := 40 }], 5, 56, [.int .i64 0, .int .i64 0, .int .i64 0, .string ByteArray.empty, .string ByteArray.empty]⟩)
theorem tyok452 : TyE.ok Tryz.prog ty452.1 ty452.2 ∧ TyE.zok Tryz.prog ty452.1 ty452.2 := mkTyF Tryz.underlying452 (by kernel_rfl)
noncomputable def allT : Tab := [ty3, ty4, ty5, ty9, ty20, ty21, ty22, ty26, ty27, ty28, ty29, ty30, ty31, ty33, ty35, ty44, ty46, ty50, ty52, ty54, ty56, ty60, ty64, ty66, ty67, ty70, ty83, ty84, ty86, ty105, ty117, ty118, ty120, ty127, ty132, ty137, ty139, ty141, ty143, ty146, ty155, ty158, ty163, ty171, ty173, ty177, ty180, ty186, ty191, ty193, ty196, ty197, ty202, ty226, ty230, ty231, ty236, ty251, ty253, ty275, ty276, ty279, ty280, ty284, ty286, ty289, ty291, ty293, ty298, ty318, ty322, ty347, ty393, ty395, ty452]
theorem tcons {x : Nat × TyE} {R : Tab} (h : TyE.ok Tryz.prog x.1 x.2 ∧ TyE.zok Tryz.prog x.1 x.2) (hr : Tab.ok Tryz.prog R) : Tab.ok Tryz.prog (x :: R) := fun p hp => (List.mem_cons.1 hp).elim (fun q => by subst q; exact h) (hr p)
theorem allT_ok : Tab.ok Tryz.prog allT := tcons tyok3 (tcons tyok4 (tcons tyok5 (tcons tyok9 (tcons tyok20 (tcons tyok21 (tcons tyok22 (tcons tyok26 (tcons tyok27 (tcons tyok28 (tcons tyok29 (tcons tyok30 (tcons tyok31 (tcons tyok33 (tcons tyok35 (tcons tyok44 (tcons tyok46 (tcons tyok50 (tcons tyok52 (tcons tyok54 (tcons tyok56 (tcons tyok60 (tcons tyok64 (tcons tyok66 (tcons tyok67 (tcons tyok70 (tcons tyok83 (tcons tyok84 (tcons tyok86 (tcons tyok105 (tcons tyok117 (tcons tyok118 (tcons tyok120 (tcons tyok127 (tcons tyok132 (tcons tyok137 (tcons tyok139 (tcons tyok141 (tcons tyok143 (tcons tyok146 (tcons tyok155 (tcons tyok158 (tcons tyok163 (tcons tyok171 (tcons tyok173 (tcons tyok177 (tcons tyok180 (tcons tyok186 (tcons tyok191 (tcons tyok193 (tcons tyok196 (tcons tyok197 (tcons tyok202 (tcons tyok226 (tcons tyok230 (tcons tyok231 (tcons tyok236 (tcons tyok251 (tcons tyok253 (tcons tyok275 (tcons tyok276 (tcons tyok279 (tcons tyok280 (tcons tyok284 (tcons tyok286 (tcons tyok289 (tcons tyok291 (tcons tyok293 (tcons tyok298 (tcons tyok318 (tcons tyok322 (tcons tyok347 (tcons tyok393 (tcons tyok395 (tcons tyok452 ((fun p hp => by cases hp))))))))))))))))))))))))))))))))))))))))))))))))))))))))))))))))))))))))))))
noncomputable def tys : List Nat → Tab
 | [] => []
 | t :: l => (match tget allT t with
   | some e => (t, e) :: tys l
   | none => tys l)
theorem tys_ok : ∀ l : List Nat, (tys l).ok Tryz.prog
 | [] => fun p hp => by cases hp
 | t :: l => by
   unfold tys
   split
   · rename_i e he
     exact tcons (tget_ok2 allT_ok he) (tys_ok l)
   · exact tys_ok l
def EntOk (g : Nat) (x : Ent) : Prop := match x with
 | .code fn pl T => Tryz.prog.funcs[g]? = some fn ∧ fnOk Tryz.prog g = true ∧ okF fn pl = true ∧ T.ok Tryz.prog
 | .con c => ConOk Tryz.prog 9 g c
theorem eok {g : Nat} {fn : Func} {pl : Plans} {l : List Nat} (h1 : Tryz.prog.funcs[g]? = some fn) (h2 : fnOk Tryz.prog g = true) (h3 : okF fn pl = true) : EntOk g (.code fn pl (tys l)) := ⟨h1, h2, h3, tys_ok l⟩
noncomputable def en7 : Ent := .code Tryz.f7 [] (tys [26,52,9,3,50,54,70])
theorem ok7 : EntOk 7 en7 := eok Tryz.func7 (by kernel_rfl) (by kernel_rfl)
noncomputable def en10 : Ent := .code Tryz.f10 [(2,[⟨0,0,[0],[],[]⟩,⟨1,0,[5],[],[]⟩,⟨2,0,[0],[],[]⟩,⟨3,1,[15],[2],[]⟩,⟨4,0,[6],[],[]⟩,⟨5,0,[16,17],[2,3,4],[]⟩,⟨6,1,[13,14,18],[0,1,2,3,4,5],[]⟩,⟨7,0,[1],[],[]⟩,⟨8,0,[5],[],[]⟩,⟨9,0,[1],[],[]⟩,⟨10,1,[22],[9],[]⟩,⟨11,0,[6],[],[]⟩,⟨12,0,[23,24],[9,10,11],[]⟩,⟨13,1,[20,21,25],[7,8,9,10,11,12],[]⟩,⟨14,2,[19,26],[0,1,2,3,4,5,6,7,8,9,10,11,12,13],[]⟩,⟨15,3,[27],[0,1,2,3,4,5,6,7,8,9,10,11,12,13,14],[]⟩,⟨16,3,[28],[0,1,2,3,4,5,6,7,8,9,10,11,12,13,14,15],[]⟩],[17])] (tys [26,52,9,3,50,54,105])
theorem ok10 : EntOk 10 en10 := eok Tryz.func10 (by kernel_rfl) (by kernel_rfl)
noncomputable def en12 : Ent := .code Tryz.f12 [(6,[⟨0,0,[3],[],[]⟩,⟨1,0,[41],[0],[]⟩,⟨2,0,[42],[0,1],[]⟩,⟨3,0,[6,43],[0,1,2],[]⟩,⟨4,0,[44,43],[0,1,2,3],[]⟩,⟨5,0,[43,45],[0,1,2,3,4],[]⟩,⟨6,0,[46],[0,1,2,3,4,5],[]⟩,⟨7,0,[9,47],[0,1,2,3,4,5,6],[]⟩,⟨8,0,[48,47],[0,1,2,3,4,5,6,7],[]⟩,⟨9,0,[47,49],[0,1,2,3,4,5,6,7,8],[]⟩,⟨10,0,[50],[0,1,2,3,4,5,6,7,8,9],[]⟩,⟨11,0,[10,51],[0,1,2,3,4,5,6,7,8,9,10],[]⟩,⟨12,0,[52,51],[0,1,2,3,4,5,6,7,8,9,10,11],[]⟩,⟨13,0,[51,53],[0,1,2,3,4,5,6,7,8,9,10,11,12],[]⟩,⟨14,0,[54],[0,1,2,3,4,5,6,7,8,9,10,11,12,13],[]⟩,⟨15,0,[11,55],[0,1,2,3,4,5,6,7,8,9,10,11,12,13,14],[]⟩,⟨16,0,[56,55],[0,1,2,3,4,5,6,7,8,9,10,11,12,13,14,15],[]⟩,⟨17,0,[55,57],[0,1,2,3,4,5,6,7,8,9,10,11,12,13,14,15,16],[]⟩,⟨18,0,[58],[0,1,2,3,4,5,6,7,8,9,10,11,12,13,14,15,16,17],[]⟩,⟨19,0,[1,59],[0,1,2,3,4,5,6,7,8,9,10,11,12,13,14,15,16,17,18],[]⟩,⟨20,0,[4,59],[0,1,2,3,4,5,6,7,8,9,10,11,12,13,14,15,16,17,18],[]⟩,⟨21,3,[60,61,59],[0,1,2,3,4,5,6,7,8,9,10,11,12,13,14,15,16,17,18,19,20],[]⟩,⟨22,1,[62,59],[0,1,2,3,4,5,6,7,8,9,10,11,12,13,14,15,16,17,18,19,20,21],[]⟩,⟨23,0,[63,59],[0,1,2,3,4,5,6,7,8,9,10,11,12,13,14,15,16,17,18,19,20,21,22],[]⟩,⟨24,0,[59,64],[0,1,2,3,4,5,6,7,8,9,10,11,12,13,14,15,16,17,18,19,20,21,22,23],[]⟩,⟨25,0,[65],[0,1,2,3,4,5,6,7,8,9,10,11,12,13,14,15,16,17,18,19,20,21,22,23,24],[]⟩,⟨26,0,[1,66],[0,1,2,3,4,5,6,7,8,9,10,11,12,13,14,15,16,17,18,19,20,21,22,23,24,25],[]⟩,⟨27,0,[4,66],[0,1,2,3,4,5,6,7,8,9,10,11,12,13,14,15,16,17,18,19,20,21,22,23,24,25],[]⟩,⟨28,1,[12,66],[0,1,2,3,4,5,6,7,8,9,10,11,12,13,14,15,16,17,18,19,20,21,22,23,24,25],[]⟩,⟨29,3,[67,68,69,66],[0,1,2,3,4,5,6,7,8,9,10,11,12,13,14,15,16,17,18,19,20,21,22,23,24,25,26,27,28],[]⟩,⟨30,1,[70,66],[0,1,2,3,4,5,6,7,8,9,10,11,12,13,14,15,16,17,18,19,20,21,22,23,24,25,26,27,28,29],[]⟩,⟨31,0,[71,66],[0,1,2,3,4,5,6,7,8,9,10,11,12,13,14,15,16,17,18,19,20,21,22,23,24,25,26,27,28,29,30],[]⟩,⟨32,0,[66,72],[0,1,2,3,4,5,6,7,8,9,10,11,12,13,14,15,16,17,18,19,20,21,22,23,24,25,26,27,28,29,30,31],[]⟩,⟨33,0,[73],[0,1,2,3,4,5,6,7,8,9,10,11,12,13,14,15,16,17,18,19,20,21,22,23,24,25,26,27,28,29,30,31,32],[]⟩,⟨34,0,[1,74],[0,1,2,3,4,5,6,7,8,9,10,11,12,13,14,15,16,17,18,19,20,21,22,23,24,25,26,27,28,29,30,31,32,33],[]⟩,⟨35,0,[7,74],[0,1,2,3,4,5,6,7,8,9,10,11,12,13,14,15,16,17,18,19,20,21,22,23,24,25,26,27,28,29,30,31,32,33],[]⟩,⟨36,1,[12,74],[0,1,2,3,4,5,6,7,8,9,10,11,12,13,14,15,16,17,18,19,20,21,22,23,24,25,26,27,28,29,30,31,32,33],[]⟩,⟨37,3,[75,76,77,74],[0,1,2,3,4,5,6,7,8,9,10,11,12,13,14,15,16,17,18,19,20,21,22,23,24,25,26,27,28,29,30,31,32,33,34,35,36],[]⟩,⟨38,1,[78,74],[0,1,2,3,4,5,6,7,8,9,10,11,12,13,14,15,16,17,18,19,20,21,22,23,24,25,26,27,28,29,30,31,32,33,34,35,36,37],[]⟩,⟨39,0,[79,74],[0,1,2,3,4,5,6,7,8,9,10,11,12,13,14,15,16,17,18,19,20,21,22,23,24,25,26,27,28,29,30,31,32,33,34,35,36,37,38],[]⟩,⟨40,0,[74,80],[0,1,2,3,4,5,6,7,8,9,10,11,12,13,14,15,16,17,18,19,20,21,22,23,24,25,26,27,28,29,30,31,32,33,34,35,36,37,38,39],[]⟩,⟨41,0,[81],[0,1,2,3,4,5,6,7,8,9,10,11,12,13,14,15,16,17,18,19,20,21,22,23,24,25,26,27,28,29,30,31,32,33,34,35,36,37,38,39,40],[]⟩,⟨42,0,[1,82],[0,1,2,3,4,5,6,7,8,9,10,11,12,13,14,15,16,17,18,19,20,21,22,23,24,25,26,27,28,29,30,31,32,33,34,35,36,37,38,39,40,41],[]⟩,⟨43,0,[7,82],[0,1,2,3,4,5,6,7,8,9,10,11,12,13,14,15,16,17,18,19,20,21,22,23,24,25,26,27,28,29,30,31,32,33,34,35,36,37,38,39,40,41],[]⟩,⟨44,1,[84,82],[0,1,2,3,4,5,6,7,8,9,10,11,12,13,14,15,16,17,18,19,20,21,22,23,24,25,26,27,28,29,30,31,32,33,34,35,36,37,38,39,40,41,43],[]⟩,⟨45,1,[12,82],[0,1,2,3,4,5,6,7,8,9,10,11,12,13,14,15,16,17,18,19,20,21,22,23,24,25,26,27,28,29,30,31,32,33,34,35,36,37,38,39,40,41],[]⟩,⟨46,3,[83,85,86,82],[0,1,2,3,4,5,6,7,8,9,10,11,12,13,14,15,16,17,18,19,20,21,22,23,24,25,26,27,28,29,30,31,32,33,34,35,36,37,38,39,40,41,42,43,44,45],[]⟩,⟨47,1,[87,82],[0,1,2,3,4,5,6,7,8,9,10,11,12,13,14,15,16,17,18,19,20,21,22,23,24,25,26,27,28,29,30,31,32,33,34,35,36,37,38,39,40,41,42,43,44,45,46],[]⟩,⟨48,0,[88,82],[0,1,2,3,4,5,6,7,8,9,10,11,12,13,14,15,16,17,18,19,20,21,22,23,24,25,26,27,28,29,30,31,32,33,34,35,36,37,38,39,40,41,42,43,44,45,46,47],[]⟩,⟨49,0,[82,89],[0,1,2,3,4,5,6,7,8,9,10,11,12,13,14,15,16,17,18,19,20,21,22,23,24,25,26,27,28,29,30,31,32,33,34,35,36,37,38,39,40,41,42,43,44,45,46,47,48],[]⟩],[50])] (tys [9,35,27,60,64,28,139,4,3,33,29,180,30,31,137,26,52,50,54,46,44,56,67,22])
theorem ok12 : EntOk 12 en12 := eok Tryz.func12 (by kernel_rfl) (by kernel_rfl)
noncomputable def en15 : Ent := .code Tryz.f15 [] (tys [46,44,56,3,9,31,137,26,52,50,54,84,22])
theorem ok15 : EntOk 15 en15 := eok Tryz.func15 (by kernel_rfl) (by kernel_rfl)
noncomputable def en24 : Ent := .code Tryz.f24 [] (tys [26,52,9,3,50,54])
theorem ok24 : EntOk 24 en24 := eok Tryz.func24 (by kernel_rfl) (by kernel_rfl)
noncomputable def en25 : Ent := .code Tryz.f25 [] (tys [52,9,3,50,54,26])
theorem ok25 : EntOk 25 en25 := eok Tryz.func25 (by kernel_rfl) (by kernel_rfl)
noncomputable def en26 : Ent := .code Tryz.f26 [] (tys [26,52,9,3,50,54])
theorem ok26 : EntOk 26 en26 := eok Tryz.func26 (by kernel_rfl) (by kernel_rfl)
noncomputable def en27 : Ent := .code Tryz.f27 [] (tys [52,9,3,50,54,26])
theorem ok27 : EntOk 27 en27 := eok Tryz.func27 (by kernel_rfl) (by kernel_rfl)
noncomputable def en28 : Ent := .code Tryz.f28 [] (tys [3,52,9,50,54])
theorem ok28 : EntOk 28 en28 := eok Tryz.func28 (by kernel_rfl) (by kernel_rfl)
noncomputable def en30 : Ent := .code Tryz.f30 [] (tys [26,52,9,3,50,54])
theorem ok30 : EntOk 30 en30 := eok Tryz.func30 (by kernel_rfl) (by kernel_rfl)
noncomputable def en31 : Ent := .code Tryz.f31 [] (tys [105,26,52,9,3,50,54])
theorem ok31 : EntOk 31 en31 := eok Tryz.func31 (by kernel_rfl) (by kernel_rfl)
noncomputable def en32 : Ent := .code Tryz.f32 [] (tys [35,27,60,64,9,28,139,4,3,33,29,180,30,31,137,67])
theorem ok32 : EntOk 32 en32 := eok Tryz.func32 (by kernel_rfl) (by kernel_rfl)
noncomputable def en33 : Ent := .code Tryz.f33 [] (tys [64,9,60,27])
theorem ok33 : EntOk 33 en33 := eok Tryz.func33 (by kernel_rfl) (by kernel_rfl)
noncomputable def en34 : Ent := .code Tryz.f34 [(2,[⟨0,1,[1],[],[]⟩,⟨1,1,[1],[],[]⟩,⟨2,1,[1],[],[]⟩,⟨3,2,[],[],[]⟩,⟨4,2,[],[],[]⟩,⟨5,2,[],[],[]⟩,⟨6,3,[2,6],[0,3,4,5],[(1,[1]),(2,[1])]⟩,⟨7,3,[3,7],[0,1,3,4,5,6],[(2,[1])]⟩,⟨8,3,[4,8],[0,1,2,3,4,5,6,7],[]⟩],[])] (tys [46,44,56,3,9,31,137])
theorem ok34 : EntOk 34 en34 := eok Tryz.func34 (by kernel_rfl) (by kernel_rfl)
noncomputable def en37 : Ent := .code Tryz.f37 [] (tys [26,52,9,3,50,54,84])
theorem ok37 : EntOk 37 en37 := eok Tryz.func37 (by kernel_rfl) (by kernel_rfl)
noncomputable def en38 : Ent := .code Tryz.f38 [] (tys [52,9,3,50,54,83])
theorem ok38 : EntOk 38 en38 := eok Tryz.func38 (by kernel_rfl) (by kernel_rfl)
noncomputable def en39 : Ent := .code Tryz.f39 [] (tys [50,54,3,9,83])
theorem ok39 : EntOk 39 en39 := eok Tryz.func39 (by kernel_rfl) (by kernel_rfl)
noncomputable def en40 : Ent := .code Tryz.f40 [] (tys [54,3,9])
theorem ok40 : EntOk 40 en40 := eok Tryz.func40 (by kernel_rfl) (by kernel_rfl)
noncomputable def en41 : Ent := .code Tryz.f41 [(9,[⟨0,0,[3],[],[]⟩,⟨1,0,[42],[0],[]⟩,⟨2,0,[43],[0,1],[]⟩,⟨3,1,[44],[0,1,2],[]⟩,⟨4,0,[7],[],[]⟩,⟨5,0,[3],[],[]⟩,⟨6,0,[47],[5],[]⟩,⟨7,0,[48],[5,6],[]⟩,⟨8,1,[49],[5,6,7],[]⟩,⟨9,0,[7],[],[]⟩,⟨10,1,[50,51],[5,6,7,8,9],[]⟩,⟨11,0,[4],[],[]⟩,⟨12,2,[53],[11],[]⟩,⟨13,3,[52,54],[5,6,7,8,9,10,11,12],[(3,[44])]⟩,⟨14,3,[45,46,55],[0,1,2,3,4,5,6,7,8,9,10,11,12,13],[]⟩],[])] (tys [26,52,9,3,50,54,117,22,120,118,83])
theorem ok41 : EntOk 41 en41 := eok Tryz.func41 (by kernel_rfl) (by kernel_rfl)
noncomputable def en42 : Ent := .code Tryz.f42 [(1,[⟨0,1,[2],[],[]⟩,⟨1,0,[5],[0],[]⟩,⟨2,0,[6],[0,1],[]⟩,⟨3,1,[7],[0,1,2],[]⟩,⟨4,0,[3],[],[]⟩,⟨5,1,[9],[4],[]⟩,⟨6,1,[8,10],[0,1,2,3,4,5],[]⟩,⟨7,1,[2],[],[]⟩,⟨8,0,[12],[7],[]⟩,⟨9,0,[13],[7,8],[]⟩,⟨10,1,[14],[7,8,9],[]⟩,⟨12,0,[2,3],[],[]⟩,⟨11,3,[11,15],[0,1,2,3,4,5,6,7,8,9,10],[]⟩,⟨13,3,[16,17],[0,1,2,3,4,5,6,7,8,9,10,11,12],[]⟩],[14])] (tys [86,56,3,9,31,137,120,26,52,50,54,118,117,22,127])
theorem ok42 : EntOk 42 en42 := eok Tryz.func42 (by kernel_rfl) (by kernel_rfl)
noncomputable def en43 : Ent := .code Tryz.f43 [(2,[⟨0,1,[2],[],[]⟩,⟨1,0,[1],[],[]⟩,⟨2,3,[8],[1],[(0,[2])]⟩,⟨3,3,[7,9],[0,1,2],[]⟩],[])] (tys [46,44,56,3,9,31,137,22,132,177])
theorem ok43 : EntOk 43 en43 := eok Tryz.func43 (by kernel_rfl) (by kernel_rfl)
noncomputable def en56 : Ent := .code Tryz.f56 [] (tys [52,9,3,50,54])
theorem ok56 : EntOk 56 en56 := eok Tryz.func56 (by kernel_rfl) (by kernel_rfl)
noncomputable def en57 : Ent := .code Tryz.f57 [] (tys [50,54,3,9])
theorem ok57 : EntOk 57 en57 := eok Tryz.func57 (by kernel_rfl) (by kernel_rfl)
noncomputable def en58 : Ent := .code Tryz.f58 [] (tys [3,26,52,9,50,54])
theorem ok58 : EntOk 58 en58 := eok Tryz.func58 (by kernel_rfl) (by kernel_rfl)
noncomputable def en59 : Ent := .code Tryz.f59 [] (tys [35,27,60,64,9,28,139,4,3,33,29,180,30,31,137,67,146])
theorem ok59 : EntOk 59 en59 := eok Tryz.func59 (by kernel_rfl) (by kernel_rfl)
noncomputable def en60 : Ent := .code Tryz.f60 [] (tys [27,60,64,9,67,158,3,20,163])
theorem ok60 : EntOk 60 en60 := eok Tryz.func60 (by kernel_rfl) (by kernel_rfl)
noncomputable def en61 : Ent := .code Tryz.f61 [] (tys [60,64,9,3,26,52,50,54,66,155,67])
theorem ok61 : EntOk 61 en61 := eok Tryz.func61 (by kernel_rfl) (by kernel_rfl)
noncomputable def en70 : Ent := .code Tryz.f70 [] (tys [26,52,9,3,50,54])
theorem ok70 : EntOk 70 en70 := eok Tryz.func70 (by kernel_rfl) (by kernel_rfl)
noncomputable def en71 : Ent := .code Tryz.f71 [] (tys [50,54,3,9])
theorem ok71 : EntOk 71 en71 := eok Tryz.func71 (by kernel_rfl) (by kernel_rfl)
noncomputable def en72 : Ent := .code Tryz.f72 [] (tys [26,52,9,3,50,54])
theorem ok72 : EntOk 72 en72 := eok Tryz.func72 (by kernel_rfl) (by kernel_rfl)
noncomputable def en73 : Ent := .code Tryz.f73 [] (tys [52,9,3,50,54])
theorem ok73 : EntOk 73 en73 := eok Tryz.func73 (by kernel_rfl) (by kernel_rfl)
noncomputable def en74 : Ent := .code Tryz.f74 [] (tys [50,54,3,9])
theorem ok74 : EntOk 74 en74 := eok Tryz.func74 (by kernel_rfl) (by kernel_rfl)
noncomputable def en75 : Ent := .code Tryz.f75 [] (tys [54,3,9])
theorem ok75 : EntOk 75 en75 := eok Tryz.func75 (by kernel_rfl) (by kernel_rfl)
noncomputable def en76 : Ent := .code Tryz.f76 [] (tys [22,3,127])
theorem ok76 : EntOk 76 en76 := eok Tryz.func76 (by kernel_rfl) (by kernel_rfl)
noncomputable def en77 : Ent := .code Tryz.f77 [(3,[⟨0,0,[0],[],[]⟩,⟨1,0,[15],[0],[]⟩,⟨2,1,[16],[0,1],[]⟩,⟨3,0,[1],[],[]⟩,⟨4,0,[18],[3],[]⟩,⟨5,1,[19],[3,4],[]⟩,⟨6,0,[17,20],[0,1,2,3,4,5],[]⟩],[7])] (tys [22,3])
theorem ok77 : EntOk 77 en77 := eok Tryz.func77 (by kernel_rfl) (by kernel_rfl)
noncomputable def en78 : Ent := .code Tryz.f78 [] (tys [86,120,26,52,9,3,50,54,118,117,22,83])
theorem ok78 : EntOk 78 en78 := eok Tryz.func78 (by kernel_rfl) (by kernel_rfl)
noncomputable def en79 : Ent := .code Tryz.f79 [] (tys [54,3,9,56,31,137])
theorem ok79 : EntOk 79 en79 := eok Tryz.func79 (by kernel_rfl) (by kernel_rfl)
noncomputable def en80 : Ent := .code Tryz.f80 [(2,[⟨0,0,[5],[],[]⟩,⟨1,1,[8],[0],[]⟩,⟨2,0,[9],[0,1],[]⟩,⟨3,0,[10],[0,1,2],[]⟩,⟨4,1,[2,11],[0,1,2,3],[]⟩,⟨5,0,[5,11],[0,1,2,3],[]⟩,⟨6,1,[13,11],[0,1,2,3,5],[]⟩,⟨7,1,[2,11],[0,1,2,3],[]⟩,⟨8,1,[3,11],[0,1,2,3],[]⟩,⟨9,3,[14,15,16,11],[0,1,2,3,5,6,7,8],[(4,[2,11])]⟩,⟨10,3,[12,17,11],[0,1,2,3,4,5,6,7,8,9],[]⟩,⟨11,0,[11,18],[0,1,2,3,4,5,6,7,8,9,10],[]⟩],[12])] (tys [54,3,9,56,31,137,173,4,171])
theorem ok80 : EntOk 80 en80 := eok Tryz.func80 (by kernel_rfl) (by kernel_rfl)
noncomputable def en81 : Ent := .code Tryz.f81 [] (tys [46,44,56,3,9,31,137,132,177])
theorem ok81 : EntOk 81 en81 := eok Tryz.func81 (by kernel_rfl) (by kernel_rfl)
noncomputable def en82 : Ent := .code Tryz.f82 [] (tys [132,3,177,22])
theorem ok82 : EntOk 82 en82 := eok Tryz.func82 (by kernel_rfl) (by kernel_rfl)
noncomputable def en101 : Ent := .code Tryz.f101 [(6,[⟨0,0,[0],[],[]⟩,⟨1,0,[5],[],[]⟩,⟨2,0,[16,17],[0,1],[]⟩,⟨3,1,[18],[0,1,2],[]⟩,⟨4,0,[1],[],[]⟩,⟨5,0,[5],[],[]⟩,⟨6,0,[20,21],[4,5],[]⟩,⟨7,1,[22],[4,5,6],[]⟩,⟨8,0,[19,23],[0,1,2,3,4,5,6,7],[]⟩],[])] (tys [50,54,3,9])
theorem ok101 : EntOk 101 en101 := eok Tryz.func101 (by kernel_rfl) (by kernel_rfl)
noncomputable def en102 : Ent := .code Tryz.f102 [] (tys [193,9,4,27,60,64,3,158])
theorem ok102 : EntOk 102 en102 := eok Tryz.func102 (by kernel_rfl) (by kernel_rfl)
noncomputable def en103 : Ent := .code Tryz.f103 [] (tys [3,28,139,9,4,196])
theorem ok103 : EntOk 103 en103 := eok Tryz.func103 (by kernel_rfl) (by kernel_rfl)
noncomputable def en104 : Ent := .code Tryz.f104 [] (tys [33,29,180,9,30,4,31,137,67,3])
theorem ok104 : EntOk 104 en104 := eok Tryz.func104 (by kernel_rfl) (by kernel_rfl)
noncomputable def en105 : Ent := .code Tryz.f105 [] (tys [30,9,146,3])
theorem ok105 : EntOk 105 en105 := eok Tryz.func105 (by kernel_rfl) (by kernel_rfl)
noncomputable def en108 : Ent := .code Tryz.f108 [] (tys [27,60,64,9])
theorem ok108 : EntOk 108 en108 := eok Tryz.func108 (by kernel_rfl) (by kernel_rfl)
noncomputable def en109 : Ent := .con (conSort 60)
theorem ok109 : EntOk 109 en109 := con109_ok
noncomputable def en111 : Ent := .code Tryz.f111 [] (tys [64,9,186,191,3,67,155,66,52,50,54,26])
theorem ok111 : EntOk 111 en111 := eok Tryz.func111 (by kernel_rfl) (by kernel_rfl)
noncomputable def en112 : Ent := .code Tryz.f112 [(16,[⟨0,1,[4],[],[]⟩,⟨1,1,[5],[],[]⟩,⟨2,0,[60],[0],[]⟩],[3])] (tys [26,52,9,3,50,54,66,155,67,193,4])
theorem ok112 : EntOk 112 en112 := eok Tryz.func112 (by kernel_rfl) (by kernel_rfl)
noncomputable def en122 : Ent := .code Tryz.f122 [] (tys [54,3,9,173,4,171])
theorem ok122 : EntOk 122 en122 := eok Tryz.func122 (by kernel_rfl) (by kernel_rfl)
noncomputable def en123 : Ent := .code Tryz.f123 [] (tys [9,67,226,230,293,5,4,291,3])
theorem ok123 : EntOk 123 en123 := eok Tryz.func123 (by kernel_rfl) (by kernel_rfl)
noncomputable def en124 : Ent := .code Tryz.f124 [] (tys [22,3])
theorem ok124 : EntOk 124 en124 := eok Tryz.func124 (by kernel_rfl) (by kernel_rfl)
noncomputable def en125 : Ent := .code Tryz.f125 [(3,[⟨1,0,[1],[],[]⟩,⟨2,1,[18],[1],[]⟩,⟨0,3,[],[],[(2,[18])]⟩,⟨3,0,[17,19],[0,1,2],[]⟩,⟨4,3,[2,20],[0,1,2,3],[]⟩],[])] (tys [54,3,9,173,4,171,231])
theorem ok125 : EntOk 125 en125 := eok Tryz.func125 (by kernel_rfl) (by kernel_rfl)
noncomputable def en126 : Ent := .code Tryz.f126 [(1,[⟨0,0,[2],[],[]⟩,⟨1,1,[5],[0],[]⟩,⟨2,0,[1],[],[]⟩,⟨4,0,[2],[],[]⟩,⟨5,1,[9],[4],[]⟩,⟨6,0,[10],[4,5],[]⟩,⟨3,3,[6,7],[0,1,2],[(5,[9])]⟩,⟨7,0,[8,11],[0,1,2,3,4,5,6],[]⟩],[8])] (tys [54,3,9,4])
theorem ok126 : EntOk 126 en126 := eok Tryz.func126 (by kernel_rfl) (by kernel_rfl)
noncomputable def en127 : Ent := .code Tryz.f127 [] (tys [132,3,177,46,44,56,9,31,137])
theorem ok127 : EntOk 127 en127 := eok Tryz.func127 (by kernel_rfl) (by kernel_rfl)
noncomputable def en128 : Ent := .code Tryz.f128 [] (tys [132,3,177])
theorem ok128 : EntOk 128 en128 := eok Tryz.func128 (by kernel_rfl) (by kernel_rfl)
noncomputable def en146 : Ent := .code Tryz.f146 [] (tys [158,9,60,64])
theorem ok146 : EntOk 146 en146 := eok Tryz.func146 (by kernel_rfl) (by kernel_rfl)
noncomputable def en147 : Ent := .code Tryz.f147 [] (tys [9,3,202,4])
theorem ok147 : EntOk 147 en147 := eok Tryz.func147 (by kernel_rfl) (by kernel_rfl)
noncomputable def en148 : Ent := .code Tryz.f148 [] (tys [28,139,9,4,3,196])
theorem ok148 : EntOk 148 en148 := eok Tryz.func148 (by kernel_rfl) (by kernel_rfl)
noncomputable def en151 : Ent := .code Tryz.f151 [(10,[⟨0,0,[6],[],[]⟩,⟨1,1,[33],[0],[]⟩,⟨3,0,[6],[],[]⟩,⟨4,1,[36],[3],[]⟩,⟨6,0,[6],[],[]⟩,⟨7,1,[39],[6],[]⟩,⟨9,0,[6],[],[]⟩,⟨10,1,[42],[9],[]⟩,⟨2,3,[34],[0,1],[(4,[36]),(7,[39]),(10,[42])]⟩,⟨12,0,[6],[0,1,2,3,4,6,7,9,10],[]⟩,⟨5,3,[37],[0,1,2,3,4],[(7,[39]),(10,[42])]⟩,⟨8,3,[40],[0,1,2,3,4,5,6,7],[(10,[42])]⟩,⟨11,3,[43],[0,1,2,3,4,5,6,7,8,9,10],[]⟩,⟨13,3,[45,35],[0,1,2,3,4,5,6,7,8,9,10,11,12],[]⟩,⟨14,0,[6],[0,1,2,3,4,5,6,7,8,9,10,11,12,13],[]⟩,⟨15,3,[46,38],[0,1,2,3,4,5,6,7,8,9,10,11,12,13,14],[]⟩,⟨16,0,[6],[0,1,2,3,4,5,6,7,8,9,10,11,12,13,14,15],[]⟩,⟨17,3,[47,41],[0,1,2,3,4,5,6,7,8,9,10,11,12,13,14,15,16],[]⟩,⟨18,0,[6],[0,1,2,3,4,5,6,7,8,9,10,11,12,13,14,15,16,17],[]⟩,⟨19,3,[48,44],[0,1,2,3,4,5,6,7,8,9,10,11,12,13,14,15,16,17,18],[]⟩],[]),(11,[⟨0,0,[4],[],[]⟩,⟨1,0,[4],[],[]⟩,⟨2,0,[50],[1],[]⟩,⟨3,0,[51],[1,2],[]⟩,⟨4,1,[52],[1,2,3],[]⟩,⟨5,1,[6],[],[]⟩,⟨6,2,[54],[5],[]⟩,⟨7,3,[53,55],[1,2,3,4,5,6],[]⟩,⟨8,0,[49],[0,1,2,3,4,5,6,7],[]⟩,⟨9,0,[57],[0,1,2,3,4,5,6,7,8],[]⟩,⟨10,3,[58,56],[0,1,2,3,4,5,6,7,8,9],[]⟩],[])] (tys [29,180,9,30,4,3,253,46,44,56,31,137,251,452,197])
theorem ok151 : EntOk 151 en151 := eok Tryz.func151 (by kernel_rfl) (by kernel_rfl)
noncomputable def en152 : Ent := .code Tryz.f152 [] (tys [30,9,3])
theorem ok152 : EntOk 152 en152 := eok Tryz.func152 (by kernel_rfl) (by kernel_rfl)
noncomputable def en153 : Ent := .code Tryz.f153 [] (tys [202,4,9,3])
theorem ok153 : EntOk 153 en153 := eok Tryz.func153 (by kernel_rfl) (by kernel_rfl)
noncomputable def en154 : Ent := .code Tryz.f154 [] (tys [202,4,9,3])
theorem ok154 : EntOk 154 en154 := eok Tryz.func154 (by kernel_rfl) (by kernel_rfl)
noncomputable def en155 : Ent := .code Tryz.f155 [] (tys [27,60,64,9,3])
theorem ok155 : EntOk 155 en155 := eok Tryz.func155 (by kernel_rfl) (by kernel_rfl)
noncomputable def en161 : Ent := .code Tryz.f161 [] (tys [9,30,3,191,186])
theorem ok161 : EntOk 161 en161 := eok Tryz.func161 (by kernel_rfl) (by kernel_rfl)
noncomputable def en162 : Ent := .code Tryz.f162 [(10,[⟨0,0,[7],[],[]⟩,⟨1,0,[10],[],[]⟩,⟨2,0,[9],[],[]⟩,⟨3,1,[32],[2],[]⟩,⟨5,0,[9],[],[]⟩,⟨6,1,[35],[5],[]⟩,⟨8,0,[9],[],[]⟩,⟨9,1,[38],[8],[]⟩,⟨4,3,[],[],[(3,[32]),(6,[35]),(9,[38])]⟩,⟨7,3,[34,36],[4,5,6],[(3,[32]),(9,[38])]⟩,⟨10,0,[31,33,37,39],[1,2,3,4,5,6,7,8,9],[]⟩,⟨11,2,[40],[1,2,3,4,5,6,7,8,9,10],[]⟩,⟨12,3,[30,41],[0,1,2,3,4,5,6,7,8,9,10,11],[]⟩],[13])] (tys [9,67,276,275,146,22,3,83,141,143,279,280,30,54,50])
theorem ok162 : EntOk 162 en162 := eok Tryz.func162 (by kernel_rfl) (by kernel_rfl)
noncomputable def en163 : Ent := .code Tryz.f163 [] (tys [26,52,9,3,50,54])
theorem ok163 : EntOk 163 en163 := eok Tryz.func163 (by kernel_rfl) (by kernel_rfl)
noncomputable def en164 : Ent := .code Tryz.f164 [] (tys [3,50,54,9,83])
theorem ok164 : EntOk 164 en164 := eok Tryz.func164 (by kernel_rfl) (by kernel_rfl)
noncomputable def en165 : Ent := .code Tryz.f165 [(3,[⟨0,0,[0],[],[]⟩,⟨1,0,[2],[],[]⟩,⟨2,0,[0],[],[]⟩,⟨3,0,[3],[],[]⟩,⟨4,0,[0],[],[]⟩,⟨5,0,[3],[],[]⟩,⟨6,0,[18,19],[4,5],[]⟩,⟨7,1,[20],[4,5,6],[]⟩,⟨8,0,[0],[],[]⟩,⟨9,0,[2],[],[]⟩,⟨10,0,[22,23],[8,9],[]⟩,⟨11,1,[24],[8,9,10],[]⟩,⟨12,0,[14,15],[0,1,4,5,6,7,8,9,10,11],[]⟩,⟨13,3,[26,21],[0,1,4,5,6,7,8,9,10,11,12],[]⟩,⟨14,0,[16,17],[0,1,2,3,4,5,6,7,8,9,10,11,12,13],[]⟩,⟨15,3,[27,25],[0,1,2,3,4,5,6,7,8,9,10,11,12,13,14],[]⟩],[])] (tys [26,52,9,3,50,54])
theorem ok165 : EntOk 165 en165 := eok Tryz.func165 (by kernel_rfl) (by kernel_rfl)
noncomputable def en166 : Ent := .code Tryz.f166 [(3,[⟨0,0,[0],[],[]⟩,⟨1,0,[2],[],[]⟩,⟨2,0,[0],[],[]⟩,⟨3,0,[3],[],[]⟩,⟨4,0,[0],[],[]⟩,⟨5,0,[3],[],[]⟩,⟨6,0,[18,19],[4,5],[]⟩,⟨7,1,[20],[4,5,6],[]⟩,⟨8,0,[0],[],[]⟩,⟨9,0,[2],[],[]⟩,⟨10,0,[22,23],[8,9],[]⟩,⟨11,1,[24],[8,9,10],[]⟩,⟨12,0,[14,15],[0,1,4,5,6,7,8,9,10,11],[]⟩,⟨13,3,[26,21],[0,1,4,5,6,7,8,9,10,11,12],[]⟩,⟨14,0,[16,17],[0,1,2,3,4,5,6,7,8,9,10,11,12,13],[]⟩,⟨15,3,[27,25],[0,1,2,3,4,5,6,7,8,9,10,11,12,13,14],[]⟩],[])] (tys [66,155,9,3,67])
theorem ok166 : EntOk 166 en166 := eok Tryz.func166 (by kernel_rfl) (by kernel_rfl)
noncomputable def en169 : Ent := .code Tryz.f169 [] (tys [9,3])
theorem ok169 : EntOk 169 en169 := eok Tryz.func169 (by kernel_rfl) (by kernel_rfl)
noncomputable def en172 : Ent := .code Tryz.f172 [] (tys [9])
theorem ok172 : EntOk 172 en172 := eok Tryz.func172 (by kernel_rfl) (by kernel_rfl)
noncomputable def en173 : Ent := .code Tryz.f173 [] (tys [9,3,286,284])
theorem ok173 : EntOk 173 en173 := eok Tryz.func173 (by kernel_rfl) (by kernel_rfl)
noncomputable def en174 : Ent := .code Tryz.f174 [] (tys [230,293,5,4,291,3,289,9])
theorem ok174 : EntOk 174 en174 := eok Tryz.func174 (by kernel_rfl) (by kernel_rfl)
noncomputable def en175 : Ent := .code Tryz.f175 [] (tys [54,3,9])
theorem ok175 : EntOk 175 en175 := eok Tryz.func175 (by kernel_rfl) (by kernel_rfl)
noncomputable def en176 : Ent := .code Tryz.f176 [] (tys [231,173,4,171])
theorem ok176 : EntOk 176 en176 := eok Tryz.func176 (by kernel_rfl) (by kernel_rfl)
noncomputable def en177 : Ent := .code Tryz.f177 [] (tys [9,67,3,5,226,230,293,4,291])
theorem ok177 : EntOk 177 en177 := eok Tryz.func177 (by kernel_rfl) (by kernel_rfl)
noncomputable def en187 : Ent := .code Tryz.f187 [] (tys [9,5])
theorem ok187 : EntOk 187 en187 := eok Tryz.func187 (by kernel_rfl) (by kernel_rfl)
noncomputable def en190 : Ent := .code Tryz.f190 [] (tys [9,3,5,318,4,322])
theorem ok190 : EntOk 190 en190 := eok Tryz.func190 (by kernel_rfl) (by kernel_rfl)
noncomputable def en192 : Ent := .code Tryz.f192 [] (tys [60,64,9])
theorem ok192 : EntOk 192 en192 := eok Tryz.func192 (by kernel_rfl) (by kernel_rfl)
noncomputable def en193 : Ent := .code Tryz.f193 [] (tys [9])
theorem ok193 : EntOk 193 en193 := eok Tryz.func193 (by kernel_rfl) (by kernel_rfl)
noncomputable def en194 : Ent := .code Tryz.f194 [] (tys [202,4,9])
theorem ok194 : EntOk 194 en194 := eok Tryz.func194 (by kernel_rfl) (by kernel_rfl)
noncomputable def en195 : Ent := .code Tryz.f195 [] (tys [28,139,9,4,3])
theorem ok195 : EntOk 195 en195 := eok Tryz.func195 (by kernel_rfl) (by kernel_rfl)
noncomputable def en196 : Ent := .code Tryz.f196 [] (tys [9])
theorem ok196 : EntOk 196 en196 := eok Tryz.func196 (by kernel_rfl) (by kernel_rfl)
noncomputable def en197 : Ent := .code Tryz.f197 [] (tys [9,3,5])
theorem ok197 : EntOk 197 en197 := eok Tryz.func197 (by kernel_rfl) (by kernel_rfl)
noncomputable def en220 : Ent := .code Tryz.f220 [] (tys [9,30,3])
theorem ok220 : EntOk 220 en220 := eok Tryz.func220 (by kernel_rfl) (by kernel_rfl)
noncomputable def en221 : Ent := .code Tryz.f221 [] (tys [9])
theorem ok221 : EntOk 221 en221 := eok Tryz.func221 (by kernel_rfl) (by kernel_rfl)
noncomputable def en222 : Ent := .code Tryz.f222 [] (tys [9,5])
theorem ok222 : EntOk 222 en222 := eok Tryz.func222 (by kernel_rfl) (by kernel_rfl)
noncomputable def en223 : Ent := .code Tryz.f223 [] (tys [9,3,143,67,141])
theorem ok223 : EntOk 223 en223 := eok Tryz.func223 (by kernel_rfl) (by kernel_rfl)
noncomputable def en224 : Ent := .code Tryz.f224 [] (tys [276,275,9,146,22,3,83])
theorem ok224 : EntOk 224 en224 := eok Tryz.func224 (by kernel_rfl) (by kernel_rfl)
noncomputable def en225 : Ent := .code Tryz.f225 [] (tys [279,275,9,146,22,3,83])
theorem ok225 : EntOk 225 en225 := eok Tryz.func225 (by kernel_rfl) (by kernel_rfl)
noncomputable def en226 : Ent := .code Tryz.f226 [] (tys [275,9,146,22,3,83,143])
theorem ok226 : EntOk 226 en226 := eok Tryz.func226 (by kernel_rfl) (by kernel_rfl)
noncomputable def en227 : Ent := .code Tryz.f227 [] (tys [30,9,3])
theorem ok227 : EntOk 227 en227 := eok Tryz.func227 (by kernel_rfl) (by kernel_rfl)
noncomputable def en228 : Ent := .code Tryz.f228 [] (tys [30,9])
theorem ok228 : EntOk 228 en228 := eok Tryz.func228 (by kernel_rfl) (by kernel_rfl)
noncomputable def en229 : Ent := .code Tryz.f229 [] (tys [50,54,3,9,67])
theorem ok229 : EntOk 229 en229 := eok Tryz.func229 (by kernel_rfl) (by kernel_rfl)
noncomputable def en230 : Ent := .code Tryz.f230 [] (tys [26,52,9,3,50,54])
theorem ok230 : EntOk 230 en230 := eok Tryz.func230 (by kernel_rfl) (by kernel_rfl)
noncomputable def en231 : Ent := .code Tryz.f231 [] (tys [54,3,9])
theorem ok231 : EntOk 231 en231 := eok Tryz.func231 (by kernel_rfl) (by kernel_rfl)
noncomputable def en232 : Ent := .code Tryz.f232 [] (tys [9])
theorem ok232 : EntOk 232 en232 := eok Tryz.func232 (by kernel_rfl) (by kernel_rfl)
noncomputable def en233 : Ent := .code Tryz.f233 [] (tys [3,9,30])
theorem ok233 : EntOk 233 en233 := eok Tryz.func233 (by kernel_rfl) (by kernel_rfl)
noncomputable def en235 : Ent := .code Tryz.f235 [] (tys [9,3])
theorem ok235 : EntOk 235 en235 := eok Tryz.func235 (by kernel_rfl) (by kernel_rfl)
noncomputable def en236 : Ent := .code Tryz.f236 [(2,[⟨0,0,[0],[],[]⟩,⟨1,0,[10],[0],[]⟩,⟨2,0,[11],[0,1],[]⟩,⟨3,1,[12],[0,1,2],[]⟩,⟨4,0,[0],[],[]⟩,⟨5,0,[14],[4],[]⟩,⟨6,0,[15],[4,5],[]⟩,⟨7,1,[16],[4,5,6],[]⟩,⟨8,1,[17],[4,5,6,7],[]⟩,⟨9,0,[13,18],[0,1,2,3,4,5,6,7,8],[]⟩],[]),(3,[⟨0,0,[0],[],[]⟩,⟨1,0,[20],[0],[]⟩,⟨2,0,[21],[0,1],[]⟩,⟨3,1,[22],[0,1,2],[]⟩,⟨4,0,[0],[],[]⟩,⟨5,0,[24],[4],[]⟩,⟨6,0,[25],[4,5],[]⟩,⟨7,1,[26],[4,5,6],[]⟩,⟨8,0,[23,27],[0,1,2,3,4,5,6,7],[]⟩],[9]),(19,[⟨0,0,[4],[],[]⟩,⟨1,0,[4],[],[]⟩,⟨2,1,[67],[1],[]⟩,⟨3,0,[68],[1,2],[]⟩,⟨4,0,[4],[],[]⟩,⟨5,0,[4],[],[]⟩,⟨6,1,[71],[5],[]⟩,⟨7,0,[72],[5,6],[]⟩,⟨8,0,[70,73],[4,5,6,7],[]⟩,⟨9,1,[74],[4,5,6,7,8],[]⟩,⟨10,1,[6],[],[]⟩,⟨11,2,[76],[10],[]⟩,⟨12,3,[75,77],[4,5,6,7,8,9,10,11],[(2,[67])]⟩,⟨13,0,[66,69],[0,1,2,3,4,5,6,7,8,9,10,11,12],[]⟩,⟨14,3,[79,78],[0,1,2,3,4,5,6,7,8,9,10,11,12,13],[]⟩],[])] (tys [226,230,293,5,4,291,286,9,3,284])
theorem ok236 : EntOk 236 en236 := eok Tryz.func236 (by kernel_rfl) (by kernel_rfl)
noncomputable def en237 : Ent := .code Tryz.f237 [] (tys [54,3,9,56,31,137])
theorem ok237 : EntOk 237 en237 := eok Tryz.func237 (by kernel_rfl) (by kernel_rfl)
noncomputable def en242 : Ent := .code Tryz.f242 [(8,[⟨0,0,[5],[],[]⟩,⟨1,0,[0],[],[]⟩,⟨2,1,[31],[1],[]⟩,⟨3,0,[30,32],[0,1,2],[]⟩,⟨4,0,[33],[0,1,2,3],[]⟩,⟨5,0,[0,34],[0,1,2,3,4],[]⟩,⟨6,0,[5,34],[0,1,2,3,4],[]⟩,⟨7,0,[1,34],[0,1,2,3,4],[]⟩,⟨8,0,[8,34],[0,1,2,3,4],[]⟩,⟨9,0,[37,38,34],[0,1,2,3,4,7,8],[]⟩,⟨10,0,[35,36,34],[0,1,2,3,4,5,6],[]⟩,⟨11,0,[40,34],[0,1,2,3,4,5,6,10],[]⟩,⟨12,0,[41,39,34],[0,1,2,3,4,5,6,7,8,9,10,11],[]⟩,⟨13,1,[42,34],[0,1,2,3,4,5,6,7,8,9,10,11,12],[]⟩,⟨14,0,[34,43],[0,1,2,3,4,5,6,7,8,9,10,11,12,13],[]⟩],[15])] (tys [9,3,230,293,5,4,291])
theorem ok242 : EntOk 242 en242 := eok Tryz.func242 (by kernel_rfl) (by kernel_rfl)
noncomputable def en247 : Ent := .code Tryz.f247 [] (tys [9,3])
theorem ok247 : EntOk 247 en247 := eok Tryz.func247 (by kernel_rfl) (by kernel_rfl)
noncomputable def en248 : Ent := .code Tryz.f248 [] (tys [9,3,5])
theorem ok248 : EntOk 248 en248 := eok Tryz.func248 (by kernel_rfl) (by kernel_rfl)
noncomputable def en253 : Ent := .code Tryz.f253 [] (tys [9,5])
theorem ok253 : EntOk 253 en253 := eok Tryz.func253 (by kernel_rfl) (by kernel_rfl)
noncomputable def en256 : Ent := .code Tryz.f256 [] (tys [318,4,9,3,5])
theorem ok256 : EntOk 256 en256 := eok Tryz.func256 (by kernel_rfl) (by kernel_rfl)
noncomputable def en257 : Ent := .code Tryz.f257 [] (tys [9,3,322,5])
theorem ok257 : EntOk 257 en257 := eok Tryz.func257 (by kernel_rfl) (by kernel_rfl)
noncomputable def en260 : Ent := .code Tryz.f260 [] (tys [60,64,9,3])
theorem ok260 : EntOk 260 en260 := eok Tryz.func260 (by kernel_rfl) (by kernel_rfl)
noncomputable def en261 : Ent := .con conLower
theorem ok261 : EntOk 261 en261 := con261_ok
noncomputable def en272 : Ent := .code Tryz.f272 [] (tys [9,3])
theorem ok272 : EntOk 272 en272 := eok Tryz.func272 (by kernel_rfl) (by kernel_rfl)
noncomputable def en273 : Ent := .code Tryz.f273 [] (tys [9,21])
theorem ok273 : EntOk 273 en273 := eok Tryz.func273 (by kernel_rfl) (by kernel_rfl)
noncomputable def en274 : Ent := .code Tryz.f274 [] (tys [143,9,236,3,67])
theorem ok274 : EntOk 274 en274 := eok Tryz.func274 (by kernel_rfl) (by kernel_rfl)
noncomputable def en275 : Ent := .code Tryz.f275 [] (tys [275,9,146,22,3,83])
theorem ok275 : EntOk 275 en275 := eok Tryz.func275 (by kernel_rfl) (by kernel_rfl)
noncomputable def en276 : Ent := .code Tryz.f276 [] (tys [9])
theorem ok276 : EntOk 276 en276 := eok Tryz.func276 (by kernel_rfl) (by kernel_rfl)
noncomputable def en277 : Ent := .code Tryz.f277 [] (tys [54,3,9,67])
theorem ok277 : EntOk 277 en277 := eok Tryz.func277 (by kernel_rfl) (by kernel_rfl)
noncomputable def en278 : Ent := .code Tryz.f278 [] (tys [275,9,146,22,3,83])
theorem ok278 : EntOk 278 en278 := eok Tryz.func278 (by kernel_rfl) (by kernel_rfl)
noncomputable def en279 : Ent := .code Tryz.f279 [] (tys [9,67])
theorem ok279 : EntOk 279 en279 := eok Tryz.func279 (by kernel_rfl) (by kernel_rfl)
noncomputable def en284 : Ent := .code Tryz.f284 [(3,[⟨1,0,[1],[],[]⟩,⟨2,1,[13],[1],[]⟩,⟨0,3,[],[],[(2,[13])]⟩,⟨3,0,[12,14],[0,1,2],[]⟩,⟨4,2,[],[],[]⟩,⟨5,3,[3,15],[0,1,2,3,4],[]⟩],[])] (tys [54,3,9,276,275,146,22,83])
theorem ok284 : EntOk 284 en284 := eok Tryz.func284 (by kernel_rfl) (by kernel_rfl)
noncomputable def en285 : Ent := .code Tryz.f285 [] (tys [9,3,5])
theorem ok285 : EntOk 285 en285 := eok Tryz.func285 (by kernel_rfl) (by kernel_rfl)
noncomputable def en296 : Ent := .con conCount
theorem ok296 : EntOk 296 en296 := con296_ok
noncomputable def en300 : Ent := .con conIndexByte
theorem ok300 : EntOk 300 en300 := con300_ok
noncomputable def en301 : Ent := .code Tryz.f301 [] (tys [318,4])
theorem ok301 : EntOk 301 en301 := eok Tryz.func301 (by kernel_rfl) (by kernel_rfl)
noncomputable def en308 : Ent := .code Tryz.f308 [] (tys [9,3,5])
theorem ok308 : EntOk 308 en308 := eok Tryz.func308 (by kernel_rfl) (by kernel_rfl)
noncomputable def en309 : Ent := .code Tryz.f309 [] (tys [5])
theorem ok309 : EntOk 309 en309 := eok Tryz.func309 (by kernel_rfl) (by kernel_rfl)
noncomputable def en310 : Ent := .code Tryz.f310 [(9,[⟨0,0,[5],[],[]⟩,⟨1,0,[7],[],[]⟩,⟨2,1,[32,33],[0,1],[]⟩,⟨3,0,[5],[],[]⟩,⟨4,0,[7],[],[]⟩,⟨5,0,[36],[4],[]⟩,⟨6,1,[35,37],[3,4,5],[]⟩,⟨7,0,[34],[0,1,2],[]⟩],[8,9])] (tys [9,236,3,5])
theorem ok310 : EntOk 310 en310 := eok Tryz.func310 (by kernel_rfl) (by kernel_rfl)
noncomputable def en311 : Ent := .code Tryz.f311 [] (tys [30,9,3])
theorem ok311 : EntOk 311 en311 := eok Tryz.func311 (by kernel_rfl) (by kernel_rfl)
noncomputable def en312 : Ent := .code Tryz.f312 [(9,[⟨0,0,[7],[],[]⟩,⟨1,1,[27],[0],[]⟩,⟨2,0,[5],[],[]⟩,⟨3,0,[8],[],[]⟩,⟨4,0,[30],[3],[]⟩,⟨5,1,[29,31],[2,3,4],[]⟩,⟨6,0,[28],[0,1],[]⟩],[7,8])] (tys [9,3,5,289])
theorem ok312 : EntOk 312 en312 := eok Tryz.func312 (by kernel_rfl) (by kernel_rfl)
noncomputable def en313 : Ent := .code Tryz.f313 [] (tys [9])
theorem ok313 : EntOk 313 en313 := eok Tryz.func313 (by kernel_rfl) (by kernel_rfl)
noncomputable def en316 : Ent := .code Tryz.f316 [] (tys [22,3])
theorem ok316 : EntOk 316 en316 := eok Tryz.func316 (by kernel_rfl) (by kernel_rfl)
noncomputable def en327 : Ent := .code Tryz.f327 [(6,[⟨0,0,[0],[],[]⟩,⟨1,0,[9],[],[]⟩,⟨2,0,[27,28],[0,1],[]⟩,⟨3,0,[7],[],[]⟩,⟨4,0,[8],[],[]⟩,⟨5,0,[30,31],[3,4],[]⟩,⟨6,0,[29,32],[0,1,2,3,4,5],[]⟩],[]),(7,[⟨0,0,[0],[],[]⟩,⟨1,0,[9],[],[]⟩,⟨2,0,[35],[1],[]⟩,⟨3,1,[34,36],[0,1,2],[]⟩,⟨4,0,[7],[],[]⟩,⟨5,0,[8],[],[]⟩,⟨6,0,[38,39],[4,5],[]⟩,⟨7,3,[37,40],[0,1,2,3,4,5,6],[]⟩],[8]),(14,[⟨0,0,[0],[],[]⟩,⟨1,0,[9],[],[]⟩,⟨2,0,[12],[],[]⟩,⟨3,0,[55,56],[1,2],[]⟩,⟨4,0,[54,57],[0,1,2,3],[]⟩,⟨5,0,[7],[],[]⟩,⟨6,0,[8],[],[]⟩,⟨7,0,[12],[],[]⟩,⟨8,0,[60,61],[6,7],[]⟩,⟨9,0,[59,62],[5,6,7,8],[]⟩,⟨10,0,[58,63],[0,1,2,3,4,5,6,7,8,9],[]⟩],[]),(31,[⟨0,0,[0],[],[]⟩,⟨1,0,[9],[],[]⟩,⟨2,0,[16],[],[]⟩,⟨3,0,[147,148],[1,2],[]⟩,⟨4,0,[146,149],[0,1,2,3],[]⟩,⟨5,0,[7],[],[]⟩,⟨6,0,[8],[],[]⟩,⟨7,0,[16],[],[]⟩,⟨8,0,[152,153],[6,7],[]⟩,⟨9,0,[151,154],[5,6,7,8],[]⟩,⟨10,0,[150,155],[0,1,2,3,4,5,6,7,8,9],[]⟩],[])] (tys [21,5,9,3])
theorem ok327 : EntOk 327 en327 := eok Tryz.func327 (by kernel_rfl) (by kernel_rfl)
noncomputable def en332 : Ent := .code Tryz.f332 [] (tys [9])
theorem ok332 : EntOk 332 en332 := eok Tryz.func332 (by kernel_rfl) (by kernel_rfl)
noncomputable def en334 : Ent := .code Tryz.f334 [] (tys [30,9])
theorem ok334 : EntOk 334 en334 := eok Tryz.func334 (by kernel_rfl) (by kernel_rfl)
noncomputable def en335 : Ent := .code Tryz.f335 [] (tys [9,3,395,298,347,4,393])
theorem ok335 : EntOk 335 en335 := eok Tryz.func335 (by kernel_rfl) (by kernel_rfl)
noncomputable def en338 : Ent := .code Tryz.f338 [] (tys [22,3])
theorem ok338 : EntOk 338 en338 := eok Tryz.func338 (by kernel_rfl) (by kernel_rfl)
noncomputable def en348 : Ent := .code Tryz.f348 [] (tys [9])
theorem ok348 : EntOk 348 en348 := eok Tryz.func348 (by kernel_rfl) (by kernel_rfl)
noncomputable def en349 : Ent := .code Tryz.f349 [] (tys [9,3,5,21,318,4])
theorem ok349 : EntOk 349 en349 := eok Tryz.func349 (by kernel_rfl) (by kernel_rfl)
noncomputable def en350 : Ent := .code Tryz.f350 [(3,[⟨0,0,[0],[],[]⟩,⟨1,0,[29],[0],[]⟩,⟨2,0,[30],[0,1],[]⟩,⟨3,1,[31],[0,1,2],[]⟩,⟨4,0,[4],[],[]⟩,⟨5,0,[32,33],[0,1,2,3,4],[]⟩,⟨6,0,[34],[0,1,2,3,4,5],[]⟩,⟨7,1,[35],[0,1,2,3,4,5,6],[]⟩,⟨8,0,[3],[],[]⟩,⟨9,1,[37],[8],[]⟩,⟨10,0,[36,38],[0,1,2,3,4,5,6,7,8,9],[]⟩,⟨11,0,[32,33],[0,1,2,3,4,5,6,7,8,9,10],[]⟩,⟨12,0,[40],[0,1,2,3,4,5,6,7,8,9,10,11],[]⟩,⟨13,3,[41,39],[0,1,2,3,4,5,6,7,8,9,10,11,12],[]⟩],[]),(4,[⟨0,0,[0],[],[]⟩,⟨1,0,[0],[],[]⟩,⟨2,0,[43],[1],[]⟩,⟨3,0,[44],[1,2],[]⟩,⟨4,1,[45],[1,2,3],[]⟩,⟨5,1,[3],[],[]⟩,⟨6,2,[47],[5],[]⟩,⟨7,3,[46,48],[1,2,3,4,5,6],[]⟩,⟨8,0,[42],[0,1,2,3,4,5,6,7],[]⟩,⟨9,0,[50],[0,1,2,3,4,5,6,7,8],[]⟩,⟨10,3,[51,49],[0,1,2,3,4,5,6,7,8,9],[]⟩],[])] (tys [347,3,9,4,395,298])
theorem ok350 : EntOk 350 en350 := eok Tryz.func350 (by kernel_rfl) (by kernel_rfl)
noncomputable def en365 : Ent := .code Tryz.f365 [] (tys [3])
theorem ok365 : EntOk 365 en365 := eok Tryz.func365 (by kernel_rfl) (by kernel_rfl)
noncomputable def ftr : Tr Ent := (.nd (.nd (.nd (.nd (.nd (.nd (.nd (.nd .lf (some (127, en127)) .lf) none .lf) (some (31, en31)) (.nd .lf none (.nd .lf (some (223, en223)) .lf))) (some (15, en15)) (.nd (.nd .lf (some (79, en79)) (.nd (.nd .lf (some (335, en335)) .lf) none .lf)) none (.nd (.nd .lf (some (175, en175)) .lf) (some (111, en111)) .lf))) (some (7, en7)) (.nd (.nd (.nd .lf (some (71, en71)) (.nd (.nd .lf (some (327, en327)) .lf) none .lf)) (some (39, en39)) (.nd .lf (some (103, en103)) (.nd .lf (some (231, en231)) .lf))) none (.nd (.nd (.nd (.nd .lf (some (279, en279)) .lf) (some (151, en151)) .lf) none .lf) none (.nd (.nd (.nd .lf (some (311, en311)) .lf) none .lf) none (.nd .lf (some (247, en247)) .lf))))) none (.nd (.nd (.nd (.nd .lf none (.nd .lf (some (195, en195)) .lf)) none (.nd (.nd .lf (some (163, en163)) .lf) none (.nd .lf (some (227, en227)) .lf))) none (.nd (.nd (.nd (.nd .lf (some (275, en275)) .lf) (some (147, en147)) .lf) none .lf) none .lf)) none (.nd (.nd (.nd .lf (some (75, en75)) .lf) (some (43, en43)) (.nd .lf none (.nd .lf (some (235, en235)) .lf))) (some (27, en27)) (.nd (.nd (.nd .lf (some (155, en155)) .lf) none .lf) (some (59, en59)) (.nd (.nd .lf (some (187, en187)) .lf) (some (123, en123)) .lf))))) none (.nd (.nd (.nd (.nd (.nd (.nd (.nd .lf (some (257, en257)) .lf) none .lf) none (.nd .lf (some (193, en193)) .lf)) (some (33, en33)) (.nd (.nd .lf (some (161, en161)) .lf) none (.nd .lf (some (225, en225)) .lf))) none (.nd (.nd (.nd (.nd .lf (some (273, en273)) .lf) none .lf) (some (81, en81)) .lf) none (.nd (.nd .lf (some (177, en177)) .lf) none .lf))) none (.nd (.nd (.nd .lf (some (73, en73)) .lf) (some (41, en41)) (.nd (.nd .lf (some (169, en169)) .lf) (some (105, en105)) (.nd .lf (some (233, en233)) .lf))) (some (25, en25)) (.nd (.nd (.nd .lf (some (153, en153)) .lf) none .lf) (some (57, en57)) (.nd (.nd (.nd .lf (some (313, en313)) .lf) none .lf) none .lf)))) none (.nd (.nd (.nd (.nd (.nd (.nd .lf (some (261, en261)) .lf) none .lf) none (.nd .lf (some (197, en197)) .lf)) (some (37, en37)) (.nd (.nd .lf (some (165, en165)) .lf) (some (101, en101)) (.nd .lf (some (229, en229)) .lf))) none (.nd (.nd (.nd (.nd .lf (some (277, en277)) .lf) none .lf) none .lf) none (.nd (.nd (.nd .lf (some (309, en309)) .lf) none .lf) none .lf))) none (.nd (.nd (.nd .lf (some (77, en77)) .lf) none (.nd (.nd (.nd .lf (some (301, en301)) .lf) (some (173, en173)) .lf) (some (109, en109)) (.nd (.nd .lf (some (365, en365)) .lf) (some (237, en237)) .lf))) none (.nd (.nd (.nd (.nd .lf (some (285, en285)) .lf) none .lf) none (.nd (.nd .lf (some (349, en349)) .lf) (some (221, en221)) .lf)) (some (61, en61)) (.nd .lf (some (125, en125)) (.nd .lf (some (253, en253)) .lf))))))) none (.nd (.nd (.nd (.nd (.nd (.nd (.nd (.nd .lf (some (256, en256)) .lf) (some (128, en128)) .lf) none (.nd .lf (some (192, en192)) .lf)) (some (32, en32)) (.nd .lf none (.nd .lf (some (224, en224)) .lf))) none (.nd (.nd (.nd (.nd .lf (some (272, en272)) .lf) none .lf) (some (80, en80)) .lf) none (.nd (.nd .lf (some (176, en176)) .lf) (some (112, en112)) .lf))) none (.nd (.nd (.nd .lf (some (72, en72)) .lf) (some (40, en40)) (.nd (.nd (.nd .lf (some (296, en296)) .lf) none .lf) (some (104, en104)) (.nd .lf (some (232, en232)) .lf))) (some (24, en24)) (.nd (.nd (.nd .lf (some (152, en152)) .lf) none .lf) (some (56, en56)) (.nd (.nd (.nd .lf (some (312, en312)) .lf) none .lf) none (.nd .lf (some (248, en248)) .lf))))) none (.nd (.nd (.nd (.nd (.nd (.nd .lf (some (260, en260)) .lf) none .lf) none (.nd .lf (some (196, en196)) .lf)) none (.nd (.nd .lf (some (164, en164)) .lf) none (.nd .lf (some (228, en228)) .lf))) none (.nd (.nd (.nd (.nd .lf (some (276, en276)) .lf) (some (148, en148)) .lf) none .lf) none (.nd (.nd (.nd .lf (some (308, en308)) .lf) none .lf) none .lf))) (some (12, en12)) (.nd (.nd (.nd .lf (some (76, en76)) (.nd (.nd .lf (some (332, en332)) .lf) none .lf)) none (.nd (.nd (.nd .lf (some (300, en300)) .lf) (some (172, en172)) .lf) (some (108, en108)) (.nd .lf (some (236, en236)) .lf))) (some (28, en28)) (.nd (.nd (.nd (.nd .lf (some (284, en284)) .lf) none .lf) none (.nd (.nd .lf (some (348, en348)) .lf) (some (220, en220)) .lf)) (some (60, en60)) (.nd (.nd (.nd .lf (some (316, en316)) .lf) none .lf) (some (124, en124)) .lf))))) none (.nd (.nd (.nd (.nd (.nd .lf none (.nd .lf (some (194, en194)) .lf)) (some (34, en34)) (.nd (.nd .lf (some (162, en162)) .lf) none (.nd .lf (some (226, en226)) .lf))) none (.nd (.nd (.nd (.nd .lf (some (274, en274)) .lf) (some (146, en146)) .lf) (some (82, en82)) (.nd (.nd .lf (some (338, en338)) .lf) none .lf)) none (.nd .lf none (.nd .lf (some (242, en242)) .lf)))) (some (10, en10)) (.nd (.nd (.nd .lf (some (74, en74)) .lf) (some (42, en42)) .lf) (some (26, en26)) (.nd (.nd (.nd .lf (some (154, en154)) .lf) none .lf) (some (58, en58)) (.nd .lf (some (122, en122)) .lf)))) none (.nd (.nd (.nd (.nd .lf (some (70, en70)) .lf) (some (38, en38)) (.nd (.nd .lf (some (166, en166)) .lf) (some (102, en102)) (.nd .lf (some (230, en230)) .lf))) none (.nd (.nd (.nd (.nd .lf (some (278, en278)) .lf) none .lf) none .lf) none (.nd (.nd (.nd .lf (some (310, en310)) .lf) none .lf) none .lf))) none (.nd (.nd (.nd .lf (some (78, en78)) (.nd (.nd .lf (some (334, en334)) .lf) none .lf)) none (.nd (.nd .lf (some (174, en174)) .lf) none .lf)) (some (30, en30)) (.nd (.nd .lf none (.nd (.nd .lf (some (350, en350)) .lf) (some (222, en222)) .lf)) none (.nd (.nd .lf (some (190, en190)) .lf) (some (126, en126)) .lf)))))))
theorem one_ok {g : Nat} {x : Ent} (h : EntOk g x) : ∀ n a, some (g, x) = some (n, a) → EntOk n a := fun n a e => by cases e; exact h
theorem none_ok : ∀ (n : Nat) (a : Ent), none = some (n, a) → EntOk n a := fun n a e => by cases e
theorem ftr_ok : AllT EntOk ftr := ⟨⟨⟨⟨⟨⟨⟨⟨trivial, (one_ok ok127), trivial⟩, none_ok, trivial⟩, (one_ok ok31), ⟨trivial, none_ok, ⟨trivial, (one_ok ok223), trivial⟩⟩⟩, (one_ok ok15), ⟨⟨trivial, (one_ok ok79), ⟨⟨trivial, (one_ok ok335), trivial⟩, none_ok, trivial⟩⟩, none_ok, ⟨⟨trivial, (one_ok ok175), trivial⟩, (one_ok ok111), trivial⟩⟩⟩, (one_ok ok7), ⟨⟨⟨trivial, (one_ok ok71), ⟨⟨trivial, (one_ok ok327), trivial⟩, none_ok, trivial⟩⟩, (one_ok ok39), ⟨trivial, (one_ok ok103), ⟨trivial, (one_ok ok231), trivial⟩⟩⟩, none_ok, ⟨⟨⟨⟨trivial, (one_ok ok279), trivial⟩, (one_ok ok151), trivial⟩, none_ok, trivial⟩, none_ok, ⟨⟨⟨trivial, (one_ok ok311), trivial⟩, none_ok, trivial⟩, none_ok, ⟨trivial, (one_ok ok247), trivial⟩⟩⟩⟩⟩, none_ok, ⟨⟨⟨⟨trivial, none_ok, ⟨trivial, (one_ok ok195), trivial⟩⟩, none_ok, ⟨⟨trivial, (one_ok ok163), trivial⟩, none_ok, ⟨trivial, (one_ok ok227), trivial⟩⟩⟩, none_ok, ⟨⟨⟨⟨trivial, (one_ok ok275), trivial⟩, (one_ok ok147), trivial⟩, none_ok, trivial⟩, none_ok, trivial⟩⟩, none_ok, ⟨⟨⟨trivial, (one_ok ok75), trivial⟩, (one_ok ok43), ⟨trivial, none_ok, ⟨trivial, (one_ok ok235), trivial⟩⟩⟩, (one_ok ok27), ⟨⟨⟨trivial, (one_ok ok155), trivial⟩, none_ok, trivial⟩, (one_ok ok59), ⟨⟨trivial, (one_ok ok187), trivial⟩, (one_ok ok123), trivial⟩⟩⟩⟩⟩, none_ok, ⟨⟨⟨⟨⟨⟨⟨trivial, (one_ok ok257), trivial⟩, none_ok, trivial⟩, none_ok, ⟨trivial, (one_ok ok193), trivial⟩⟩, (one_ok ok33), ⟨⟨trivial, (one_ok ok161), trivial⟩, none_ok, ⟨trivial, (one_ok ok225), trivial⟩⟩⟩, none_ok, ⟨⟨⟨⟨trivial, (one_ok ok273), trivial⟩, none_ok, trivial⟩, (one_ok ok81), trivial⟩, none_ok, ⟨⟨trivial, (one_ok ok177), trivial⟩, none_ok, trivial⟩⟩⟩, none_ok, ⟨⟨⟨trivial, (one_ok ok73), trivial⟩, (one_ok ok41), ⟨⟨trivial, (one_ok ok169), trivial⟩, (one_ok ok105), ⟨trivial, (one_ok ok233), trivial⟩⟩⟩, (one_ok ok25), ⟨⟨⟨trivial, (one_ok ok153), trivial⟩, none_ok, trivial⟩, (one_ok ok57), ⟨⟨⟨trivial, (one_ok ok313), trivial⟩, none_ok, trivial⟩, none_ok, trivial⟩⟩⟩⟩, none_ok, ⟨⟨⟨⟨⟨⟨trivial, (one_ok ok261), trivial⟩, none_ok, trivial⟩, none_ok, ⟨trivial, (one_ok ok197), trivial⟩⟩, (one_ok ok37), ⟨⟨trivial, (one_ok ok165), trivial⟩, (one_ok ok101), ⟨trivial, (one_ok ok229), trivial⟩⟩⟩, none_ok, ⟨⟨⟨⟨trivial, (one_ok ok277), trivial⟩, none_ok, trivial⟩, none_ok, trivial⟩, none_ok, ⟨⟨⟨trivial, (one_ok ok309), trivial⟩, none_ok, trivial⟩, none_ok, trivial⟩⟩⟩, none_ok, ⟨⟨⟨trivial, (one_ok ok77), trivial⟩, none_ok, ⟨⟨⟨trivial, (one_ok ok301), trivial⟩, (one_ok ok173), trivial⟩, (one_ok ok109), ⟨⟨trivial, (one_ok ok365), trivial⟩, (one_ok ok237), trivial⟩⟩⟩, none_ok, ⟨⟨⟨⟨trivial, (one_ok ok285), trivial⟩, none_ok, trivial⟩, none_ok, ⟨⟨trivial, (one_ok ok349), trivial⟩, (one_ok ok221), trivial⟩⟩, (one_ok ok61), ⟨trivial, (one_ok ok125), ⟨trivial, (one_ok ok253), trivial⟩⟩⟩⟩⟩⟩⟩, none_ok, ⟨⟨⟨⟨⟨⟨⟨⟨trivial, (one_ok ok256), trivial⟩, (one_ok ok128), trivial⟩, none_ok, ⟨trivial, (one_ok ok192), trivial⟩⟩, (one_ok ok32), ⟨trivial, none_ok, ⟨trivial, (one_ok ok224), trivial⟩⟩⟩, none_ok, ⟨⟨⟨⟨trivial, (one_ok ok272), trivial⟩, none_ok, trivial⟩, (one_ok ok80), trivial⟩, none_ok, ⟨⟨trivial, (one_ok ok176), trivial⟩, (one_ok ok112), trivial⟩⟩⟩, none_ok, ⟨⟨⟨trivial, (one_ok ok72), trivial⟩, (one_ok ok40), ⟨⟨⟨trivial, (one_ok ok296), trivial⟩, none_ok, trivial⟩, (one_ok ok104), ⟨trivial, (one_ok ok232), trivial⟩⟩⟩, (one_ok ok24), ⟨⟨⟨trivial, (one_ok ok152), trivial⟩, none_ok, trivial⟩, (one_ok ok56), ⟨⟨⟨trivial, (one_ok ok312), trivial⟩, none_ok, trivial⟩, none_ok, ⟨trivial, (one_ok ok248), trivial⟩⟩⟩⟩⟩, none_ok, ⟨⟨⟨⟨⟨⟨trivial, (one_ok ok260), trivial⟩, none_ok, trivial⟩, none_ok, ⟨trivial, (one_ok ok196), trivial⟩⟩, none_ok, ⟨⟨trivial, (one_ok ok164), trivial⟩, none_ok, ⟨trivial, (one_ok ok228), trivial⟩⟩⟩, none_ok, ⟨⟨⟨⟨trivial, (one_ok ok276), trivial⟩, (one_ok ok148), trivial⟩, none_ok, trivial⟩, none_ok, ⟨⟨⟨trivial, (one_ok ok308), trivial⟩, none_ok, trivial⟩, none_ok, trivial⟩⟩⟩, (one_ok ok12), ⟨⟨⟨trivial, (one_ok ok76), ⟨⟨trivial, (one_ok ok332), trivial⟩, none_ok, trivial⟩⟩, none_ok, ⟨⟨⟨trivial, (one_ok ok300), trivial⟩, (one_ok ok172), trivial⟩, (one_ok ok108), ⟨trivial, (one_ok ok236), trivial⟩⟩⟩, (one_ok ok28), ⟨⟨⟨⟨trivial, (one_ok ok284), trivial⟩, none_ok, trivial⟩, none_ok, ⟨⟨trivial, (one_ok ok348), trivial⟩, (one_ok ok220), trivial⟩⟩, (one_ok ok60), ⟨⟨⟨trivial, (one_ok ok316), trivial⟩, none_ok, trivial⟩, (one_ok ok124), trivial⟩⟩⟩⟩⟩, none_ok, ⟨⟨⟨⟨⟨trivial, none_ok, ⟨trivial, (one_ok ok194), trivial⟩⟩, (one_ok ok34), ⟨⟨trivial, (one_ok ok162), trivial⟩, none_ok, ⟨trivial, (one_ok ok226), trivial⟩⟩⟩, none_ok, ⟨⟨⟨⟨trivial, (one_ok ok274), trivial⟩, (one_ok ok146), trivial⟩, (one_ok ok82), ⟨⟨trivial, (one_ok ok338), trivial⟩, none_ok, trivial⟩⟩, none_ok, ⟨trivial, none_ok, ⟨trivial, (one_ok ok242), trivial⟩⟩⟩⟩, (one_ok ok10), ⟨⟨⟨trivial, (one_ok ok74), trivial⟩, (one_ok ok42), trivial⟩, (one_ok ok26), ⟨⟨⟨trivial, (one_ok ok154), trivial⟩, none_ok, trivial⟩, (one_ok ok58), ⟨trivial, (one_ok ok122), trivial⟩⟩⟩⟩, none_ok, ⟨⟨⟨⟨trivial, (one_ok ok70), trivial⟩, (one_ok ok38), ⟨⟨trivial, (one_ok ok166), trivial⟩, (one_ok ok102), ⟨trivial, (one_ok ok230), trivial⟩⟩⟩, none_ok, ⟨⟨⟨⟨trivial, (one_ok ok278), trivial⟩, none_ok, trivial⟩, none_ok, trivial⟩, none_ok, ⟨⟨⟨trivial, (one_ok ok310), trivial⟩, none_ok, trivial⟩, none_ok, trivial⟩⟩⟩, none_ok, ⟨⟨⟨trivial, (one_ok ok78), ⟨⟨trivial, (one_ok ok334), trivial⟩, none_ok, trivial⟩⟩, none_ok, ⟨⟨trivial, (one_ok ok174), trivial⟩, none_ok, trivial⟩⟩, (one_ok ok30), ⟨⟨trivial, none_ok, ⟨⟨trivial, (one_ok ok350), trivial⟩, (one_ok ok222), trivial⟩⟩, none_ok, ⟨⟨trivial, (one_ok ok190), trivial⟩, (one_ok ok126), trivial⟩⟩⟩⟩⟩⟩⟩
noncomputable def F : FTab := fun g => get g ftr
theorem F_ok : F.ok Tryz.prog 9 := fun g x h => by
 have := allT_get ftr_ok h
 unfold EntOk at this
 exact this
end Go.Proofs.YtckdkhhpjnefpaaGreatDoor
