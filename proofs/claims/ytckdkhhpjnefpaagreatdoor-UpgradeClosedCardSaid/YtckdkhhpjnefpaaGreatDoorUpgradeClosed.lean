/- UpgradeClosed: for every list of numbers the law returns true, and its argument reads as before; the listed variables are tied to the text of the program by the given tie. -/
import Derived.Test.YtckdkhhpjnefpaaGreatDoorQ9
import Derived.Test.YtckdkhhpjnefpaaGreatDoorTie
import Derived.Test.YtckdkhhpjnefpaaGreatDoorCards
set_option maxHeartbeats 4000000
set_option linter.unusedVariables false
set_option linter.deprecated false
set_option linter.unusedSimpArgs false
set_option linter.unusedSectionVars false
open Go.Proofs.Tryz renaming prog→E9c
open List renaming all_eq_true→F0c
namespace Go.Proofs.YtckdkhhpjnefpaaGreatDoor
open Go Go.Eng Go.ChangeShapes Go.WideShapes Go.ChangeAt Go.RowKit
namespace upgradeClosed
theorem walk(a0:Option Addr)(len0 cap0:Nat)(z0:List Int)(w:World)(w0:E3t .i64 w a0 len0 cap0 z0)(hg:Glb (B3n w)):
 Calls E9c 5 #[.slice a0 len0 cap0] w fun e w'=>e=.returned (.bool true)∧Below w.heap.size w w':=
 (E8j ((C7f _ (B3n w) [] hg w0.sl fun i' L' _=>known_t i' L').mono fun _ _ _ _ ⟨_,h,_⟩=>h)).mono fun _ _ ⟨h1,h2⟩=>⟨h1,E6p h2⟩
set_option maxRecDepth 100000 in
theorem lifted(os:Os)(started:os.Started)(H:Type)(enc:TypeId×Value→H):
 ReturnsInHanded {} Tryz.checked os 5 .any (fun w args=>(Rows.upgradeClosedSpec.pre enc E9c Tryz.f5 Rows.upgradeClosedRow.domain false w args∧laidMetH E9c Rows.upgradeClosedRow.laid w)∧sizedMet enc E9c Tryz.f5 (OpenSpec.ofChange Rows.upgradeClosedSpec) false w args)
  (Rows.upgradeClosedSpec.post enc E9c Tryz.f5 false true false false):=by
 refine B1j (C:=Tryz.checked) (X:=fun w _=>laidMetH E9c Rows.upgradeClosedRow.laid w) (fun _ _ _ hh h=>h.of_heap hh) own started (by kernel_rfl) Tryz.func5
  (ChangeSpec.witness_shaped (enc:=enc) (C:=Tryz.checked) (os:=os) (X:=fun w _=>laidMetH E9c Rows.upgradeClosedRow.laid w) false (World.laidAll E9c os Rows.upgradeClosedRow.laid) #[.slice none 0 0] 8 (World.laidAll_os _ _ _)
   (D0g os _) (by kernel_rfl) (by kernel_rfl) (by kernel_rfl) (C4r os _)) ?_
 intro W base args ds gs before hval0 hW hL hsh;have hval:∀(j:Nat) t v,Tryz.f5.params[j]?=some t→args[j]?=some v→Value.okWide E9c W .any base t v:=hval0;have hW':=hW;obtain⟨p,q,hA0,hV,rfl,hfz,hnd⟩:=hW;have hA:DataW.TrodAll enc E9c W 0 (fun _=>true) true Tryz.f5.params.toList args.toList ds p:=hA0;rw[Tryz.params5] at hA hval;obtain⟨v0,vs0,d0,ds0,p0,q0,hargs,rfl,rfl,h0,r0⟩:=trodAll_cons hA;obtain⟨rfl,rfl,rfl⟩:=trodAll_nil r0;obtain rfl:args=#[v0]:=by cases args;simp_all
 obtain⟨rfl,rfl⟩:=trodVars_none hV;obtain⟨a0,len0,cap0,rfl⟩:=okWide_slice Tryz.underlying22 (hval 0 22 v0 rfl rfl);have k0:=h0;have lt0:∀x∈p0,x.block<W.heap.size:=by obtain⟨m,hm⟩:=k0;exact DataW.trod_lt m _ _ _ hm
 obtain⟨z0,w0⟩:∃zs,E3t .i64 W a0 len0 cap0 zs:=by
  obtain⟨fuel,hf⟩:=h0;rcases open_ints Tryz.underlying22 Tryz.underlying3 (by kernel_rfl) hf with⟨hcs,_⟩|⟨x,l,c,zs,hcs,_,hl,hm,hz,_,hcell,hwz⟩
  ·simp[Value.cells] at hcs;obtain⟨rfl,rfl,rfl⟩:=hcs;exact⟨[],.inl ⟨rfl,rfl,rfl,rfl⟩⟩
  ·simp[Value.cells] at hcs;obtain⟨rfl,rfl,rfl⟩:=hcs;exact⟨zs,.inr ⟨_,rfl,hl,hm,by simpa using hz,hcell,hwz⟩⟩
 clear hA0 hval0
 refine(walk a0 len0 cap0 z0 W w0 (glb_of hL hsh)).mono fun e W' ⟨he,bel⟩=>?_
 subst he;exact⟨_,rfl,_,_,_,[],_,[],hW',trodAll_mk1 (shut_bool Tryz.underlying4 _),(trodAll_cons_mk (Below.trod laidOut (by kernel_rfl) (of_decide_eq_true (by kernel_rfl)) k0 bel lt0) trodAll_mk0),rfl,bel.frame _,fun h=>by cases h⟩
theorem named:Tryz.pinned.checked.prog.funcNamed Rows.upgradeClosedRow.func=some 5:=by kernel_rfl
theorem inst:Tryz.f5.isInstance Tryz.pinned.checked.prog Rows.upgradeClosedRow.origin Rows.upgradeClosedRow.targs:=of_decide_eq_true (by kernel_rfl)
theorem wrap:Tryz.f5.isWrapper Tryz.pinned.checked.prog Rows.upgradeClosedRow.wrapper Rows.upgradeClosedRow.mainSum:=by unfold Func.isWrapper;first|(rw[if_pos (by decide+kernel)];kernel_rfl)|(rw[if_neg (by decide+kernel)];exact⟨rfl,rfl⟩)
theorem run(os:Os)(started:os.Started)(H:Type)(enc:TypeId×Value→H)(_:∀a b,enc a=enc b→a=b):
 ReturnsInHanded Rows.upgradeClosedRow.assume Tryz.pinned.checked os 5 .any (Rows.upgradeClosedRow.pre enc Tryz.pinned.checked.prog Tryz.f5 (OpenSpec.ofChange Rows.upgradeClosedSpec)) (Rows.upgradeClosedSpec.post enc Tryz.pinned.checked.prog Tryz.f5 Rows.upgradeClosedRow.apart Rows.upgradeClosedRow.fresh Rows.upgradeClosedRow.handsOn Rows.upgradeClosedRow.again):=by
 rw[E5f (l:=Rows.upgradeClosedRow.laid) rfl (by intro h;cases h)];exact lifted os started H enc
theorem over:Rows.upgradeClosedRow.holds Tryz.pinned (OpenSpec.ofChange Rows.upgradeClosedSpec):=
 OpenClaim.holds_of_wide 5 Tryz.f5 rfl rfl rfl rfl rfl rfl rfl ⟨rfl,rfl,rfl,rfl,rfl⟩ rfl rfl rfl rfl rfl named Tryz.func5 closed inst wrap run
theorem looks(f:FuncId)(fn:Func)(hf:Tryz.pinned.checked.prog.funcNamed Rows.upgradeClosedRow.func=some f)(hfn:Tryz.pinned.checked.prog.funcs[f]?=some fn):true=Tryz.pinned.checked.prog.looks []∧∀(j:Nat) t,fn.params[j]?=some t→Tryz.pinned.checked.prog.wantsStandIn t=false:=by
 obtain rfl:f=5:=Option.some.inj ((show E9c.funcNamed "coldplug/coldpluglaw43.UpgradeClosed" =some 5 by kernel_rfl).symm.trans hf) |>.symm
 obtain rfl:fn=Tryz.f5:=(Option.some.inj (Tryz.func5.symm.trans hfn)).symm
 exact⟨by kernel_rfl,fun j t ht=>by
  rw[Tryz.params5] at ht;have hm:t∈[22]:=by simpa using Array.mem_of_getElem? ht
  have hall:([22].all fun u=> !E9c.wantsStandIn u)=true:=by kernel_rfl
  exact(show E9c.wantsStandIn t=false by simpa using F0c.1 hall t hm)⟩
theorem proved:Rows.UpgradeClosedCardSaid:=
 Claim7.holds_tied_plain_at .later [] [.data,.data,.data,.data,.sentinel,.sentinel,.pinned,.pinned] true (true, "ffeacdc8a028b4685c04d313d1b4d90afe89280dc0fdba55e4612a20d008e3b3") true over (fun _ h=>by cases h) wf (fun _ h=>by cases h) upgradeClosed_row_tie rfl ⟨rfl,rfl⟩ mainIs rfl looks goes
#print axioms proved
end upgradeClosed
end Go.Proofs.YtckdkhhpjnefpaaGreatDoor
