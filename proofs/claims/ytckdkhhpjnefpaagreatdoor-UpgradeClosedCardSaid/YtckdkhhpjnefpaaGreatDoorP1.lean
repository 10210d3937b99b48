/- What the proof leans on. No condition. -/
import Derived.Orders
import Derived.WalkKit
import Derived.Deep.LoopGhost
import Derived.OrdersIn
import Derived.StillTail
import Derived.Deep.Quiet
import Derived.Laws.MakeOwn
import Derived.MapKept
import Derived.WideShapes
import Derived.Laws.StructEq
import Derived.RangeFuncLeaves
import Derived.RangeFuncSeq
import Derived.Maps.RangeRun
set_option maxHeartbeats 4000000
set_option linter.unusedVariables false
set_option linter.deprecated false
set_option linter.unusedSimpArgs false
set_option linter.unusedSectionVars false
open List renaming mem_cons_of_mem→E9u,mem_cons_self→F0g,map_cons→F0w,length_cons→F1h,mem_map→F1k,drop_drop→F1u,getElem?_eq_some_iff→E9e,mem_of_getElem?→E9g,mem_cons→F0b,mem_iff_getElem?→F0j,all_eq_true→F0c,mem_append_left→F1p,toArray→E9d,length_append→E9h,getElem?_append_left→E9t,getElem?_eq_getElem→E9v,eq_nil_of_length_eq_zero→F0t,perm_append_comm_assoc→E9x,mem_append→E9r,append_of_mem→F0z,getElem?_map→F0k,mem_of_mem_take→F1d,getElem?_drop→F1e,mem_of_mem_drop→F1g,replicate→E9y
open Nat renaming eq_of_beq_eq_true→E9m,beq→E9p,blt→F0e,blt_eq→F1j,le_refl→E9q,le_of_ble_eq_true→E9w,ble→F0n,zero_add→F1b,add_mul→F1f,zero_le→E9k
open Array renaming ext'→F1w
open Bool renaming and_eq_true→E9j
open Go.Builtin renaming zeroCells→F1n
open Option renaming map_some→F1q
open UInt8 renaming ofNat→F0d
open Go.Instr renaming sliceBounds→F0v,sliceAt→F1a,sliceBound→F1c,slice→F1v
open ByteArray renaming size_append→F0a,size_extract→F0f
open Go.Obj renaming cells→E9n
namespace Go.Eng
open Go
abbrev Fr:=Nat→Value
def upd(f:Fr)(d:Nat)(v:Value):Fr:=fun i=>bif E9p i d then v else f i
def F3(f:Fr):Option Nat→Value→Fr
 |some d,v=>upd f d v
 |none,_=>f
def uF:Fr:=fun _=>undef
def A6g:Nat→List Value→Fr
 |_,[]=>uF
 |k,a::l=>upd (A6g (k+1) l) k a
def ofD(n:Nat)(ds:List Deferred)(f:Fr):Act:=⟨Array.ofFn (n:=n) fun i=>f i.val,ds⟩
abbrev ofF(n:Nat)(f:Fr):Act:=ofD n [] f
def ev(n:Nat)(f:Fr):Operand→Value
 | .tmp t=>bif F0e t n then f t else undef
 | .const v=>v
 | .global g=>.pointer (some ⟨g,0,none⟩)
 | .func g=>.func (.func g) #[] #[]
theorem C8r(n:Nat)(ds:List Deferred)(f:Fr)(t:Nat):(ofD n ds f).tmps.getD t undef=bif F0e t n then f t else undef:=by
 simp only[ofD,Array.getD_eq_getD_getElem?,Array.getElem?_ofFn];by_cases h:t<n
 ·have:F0e t n=true:=by simp[F1j,h]
  simp[h,this]
 ·have:F0e t n=false:=by
   cases hb:F0e t n
   ·rfl
   ·exact absurd (by simpa [F1j] using hb) h
  simp[h,this]
theorem E5j(n:Nat)(ds:List Deferred)(f:Fr)(t:Nat):(ofD n ds f).tmps[t]?=bif F0e t n then some (f t) else none:=by
 simp only[ofD,Array.getElem?_ofFn];by_cases h:t<n
 ·have:F0e t n=true:=by simp[F1j,h]
  simp[h,this]
 ·have:F0e t n=false:=by
   cases hb:F0e t n
   ·rfl
   ·exact absurd (by simpa [F1j] using hb) h
  simp[h,this]
theorem V7(n:Nat)(ds:List Deferred)(f:Fr):(ofD n ds f).eval=ev n f:=by
 funext x;cases x with
 |tmp t=>exact C8r n ds f t
 |_=>rfl
theorem K2(f:Fr)(d:Nat)(v:Value):upd f d v d=v:=by simp[upd]
theorem M8(f:Fr){d i:Nat}(v:Value)(h:i≠d):upd f d v i=f i:=by
 have:E9p i d=false:=by
  cases hb:E9p i d
  ·rfl
  ·exact absurd (E9m hb) h
 simp[upd,this]
theorem Y2(n:Nat)(ds:List Deferred)(f:Fr)(o:Option Nat)(v:Value):(ofD n ds f).put o v=ofD n ds (F3 f o v):=by
 cases o with
 |none=>rfl
 |some d=>
  simp only[Act.put,ofD,F3,Act.mk.injEq,and_true];apply Array.ext_getElem?;intro i;rw[Array.getElem?_setIfInBounds];by_cases hd:d=i
  ·subst hd;by_cases h:d<n
   ·simp[h,K2]
   ·simp[h]
  ·rw[if_neg hd];by_cases h:i<n
   ·simp[h,M8 f v (Ne.symm hd)]
   ·simp[h]
theorem B7y(n:Nat)(l:List Value)(h:l.length≤n):
 ({tmps:=l.toArray++Array.replicate (n-l.toArray.size) undef,defers:=[]}:Act)=ofF n (A6g 0 l):=by
 have key:∀(l:List Value)(k i:Nat),A6g k l i=if k≤i∧i<k+l.length then(l[i-k]?).getD undef else undef:=by
  intro l;induction l with
  |nil=>intro k i;simp[A6g,uF];
  |cons a l ih=>
   intro k i;simp only[A6g,F1h];by_cases hik:i=k
   ·subst hik;simp[K2]
   ·rw[M8 _ _ hik,ih];by_cases hc:k+1≤i∧i<k+1+l.length
    ·rw[if_pos hc,if_pos (by omega)]
     have:i-k=(i-(k+1))+1:=by omega
     rw[this];simp
    ·rw[if_neg hc,if_neg (by omega)]
 simp only[ofF,ofD,Act.mk.injEq,and_true];apply Array.ext_getElem?;intro i;rw[Array.getElem?_append,Array.getElem?_ofFn,Array.getElem?_replicate];simp only[List.size_toArray,List.getElem?_toArray,key];by_cases hi:i<l.length
 ·have hn:i<n:=by omega
  simp[hi,hn]
 ·by_cases hn:i<n
  ·have:i-l.length<n-l.length:=by omega
   simp[hi,hn,this]
  ·have:¬(i-l.length<n-l.length):=by omega
   simp[hi,hn,this]
structure Imm where
 blk:Nat→Option Obj
 os:Os
 tape:Nat→Question→Nat
 output:Array (Nat×ByteArray)
structure Imm.le(i j:Imm):Prop where
 os:j.os=i.os
 tape:j.tape=i.tape
 output:j.output=i.output
 blk:∀b o,i.blk b=some o→j.blk b=some o
theorem Imm.le.refl(i:Imm):i.le i:=⟨rfl,rfl,rfl,fun _ _ h=>h⟩
theorem Imm.le.trans{i j k:Imm}(h:i.le j)(h':j.le k):i.le k:=
 ⟨h'.os.trans h.os,h'.tape.trans h.tape,h'.output.trans h.output,fun b o hb=>h'.blk b o (h.blk b o hb)⟩
abbrev SH:=List (Nat×Obj)
structure St(i:Imm)(L:SH)(w:World):Prop where
 os:w.os=i.os
 tape:w.tape=i.tape
 output:w.output=i.output
 imm:∀b o,i.blk b=some o→w.heap[b]?=some o
 nodup:(L.map Prod.fst).Nodup
 own:∀p∈L,w.heap[p.1]?=some p.2
 sep:∀p∈L,i.blk p.1=none
theorem St.drew{i:Imm}{L:SH}{w:World}(h:St i L w):St i L {w with drawn:=w.drawn+1}:=
 ⟨h.os,h.tape,h.output,h.imm,h.nodup,h.own,h.sep⟩
theorem St.perm{i:Imm}{L L':SH}{w:World}(h:St i L w)(hp:L.Perm L'):St i L' w:=
 ⟨h.os,h.tape,h.output,h.imm,(hp.map Prod.fst).nodup_iff.1 h.nodup,fun p m=>h.own p (hp.mem_iff.2 m),fun p m=>h.sep p (hp.mem_iff.2 m)⟩
def Imm.add(i:Imm)(b:Nat)(o:Obj):Imm:={i with blk:=fun c=>if c=b then some o else i.blk c}
theorem St.freeze{i:Imm}{L:SH}{w:World}{b:Nat}{o:Obj}(h:St i ((b,o)::L) w):i.le (i.add b o)∧St (i.add b o) L w:=by
 have hn:=h.nodup;simp only[F0w,List.nodup_cons] at hn;refine⟨⟨rfl,rfl,rfl,fun c o' hc=>?_⟩,⟨h.os,h.tape,h.output,fun c o' hc=>?_,hn.2,fun p m=>h.own p (E9u _ m),fun p m=>?_⟩⟩
 ·have:c≠b:=by
   rintro rfl
   have:=h.sep (c,o) (F0g ..)
   simp[this] at hc
  simp[Imm.add,this,hc]
 ·simp only[Imm.add] at hc;split at hc
  ·rename_i e;subst e;cases hc;exact h.own (c,o) (F0g ..)
  ·exact h.imm c o' hc
 ·have hne:p.1≠b:=by
   rintro rfl;exact hn.1 (F1k.2 ⟨p,m,rfl⟩)
  simp[Imm.add,hne,h.sep p (E9u _ m)]
theorem St.drop{i:Imm}{L:SH}{w:World}{p:Nat×Obj}(h:St i (p::L) w):St i L w:=
 ⟨h.os,h.tape,h.output,h.imm,(List.nodup_cons.1 (by simpa using h.nodup)).2,fun q m=>h.own q (E9u _ m),fun q m=>h.sep q (E9u _ m)⟩
theorem St.dropL{i:Imm}{L M:SH}{w:World}(h:St i (M++L) w):St i L w:=by
 induction M with
 |nil=>exact h
 |cons p M ih=>exact ih h.drop
def Wd(F:Fence):Prop:=F=Fence.wide∨∃l,F=Fence.wide.inRound l
theorem Wd.fn{F:Fence}(h:Wd F)(f:FuncId):F.fn f:=by
 rcases h with rfl|⟨l,rfl⟩<;>exact trivial
theorem Wd.depth{F:Fence}(h:Wd F){p:Prop}:F.depth.isSome=true→p:=by
 rcases h with rfl|⟨l,rfl⟩<;>exact fun h=>by cases h
theorem Wd.calls{F:Fence}(h:Wd F){n:Nat}{P:Program}{f:FuncId}{args:Array Value}{w:World}{R:Ending→World→Prop}(k:Calls P f args w R):CallsIn F n P f args w R:=by
 rcases h with rfl|⟨l,rfl⟩
 ·exact callsIn_wide.2 k
 ·exact(callsIn_wide (n:=n)).2 k
theorem Wd.round{F:Fence}(h:Wd F){n:Nat}{P:Program}{l:Nat}{f:FuncId}{tmps:Array Value}{assign body:Code}{w:World}{R:Ending→World→Prop}(k:RoundIn Fence.wide n P l f tmps assign body w R):RoundIn F n P l f tmps assign body w R:=by
 rcases h with rfl|⟨l,rfl⟩
 ·exact k
 ·exact k
def D8j(P:Program)(K:Value→World→Prop):Result Next→Prop
 | .ok (.value v) w=>K v w
 | .ok .skip w=>K undef w
 | .ok (.enter g args) w=>Calls P g args w fun e w'=>∃v,e=.returned v∧K v w'
 | .ok (.round l f tmps assign body) w=>RoundIn Fence.wide 0 P l f tmps assign body w fun e w'=>∃v,e=.returned v∧K v w'
 |_=>False
theorem D8j.mono{P:Program}{K K':Value→World→Prop}{r:Result Next}(h:D8j P K r)(hk:∀v w,K v w→K' v w):D8j P K' r:=by
 unfold D8j at*;split at h
 ·exact hk _ _ h
 ·exact hk _ _ h
 ·exact h.mono fun _ _ ⟨v,he,k⟩=>⟨v,he,hk _ _ k⟩
 ·exact RoundIn.mono h fun _ _ ⟨v,he,k⟩=>⟨v,he,hk _ _ k⟩
 ·exact h.elim
@[irreducible] def P3(P:Program)(n:Nat)(o:Oper)(f:Fr)(i:Imm)(L:SH)(K:Value→Imm→SH→Prop):Prop:=
 ∀w,St i L w→D8j P (fun v w'=>∃i' L',i.le i'∧St i' L' w'∧K v i' L') ((execOp (ev n f) o).run P w)
theorem E4x{F:Fence}{P:Program}{n:Nat}{ds:List Deferred}{o:Oper}{f:Fr}{w:World}{K:Value→World→Prop}(h:D8j P K ((execOp (ev n f) o).run P w)):(o.semAt F.round (ofD n ds f).eval)=execOp (ev n f) o:=by
 rw[V7];refine Oper.semAt_eq F.round (ev n f) o fun c hc=>?_
 obtain⟨dst,op,ty,pos,B4,gd⟩:=o;simp only at hc;subst hc;simp only[execOp,Sem.run_bind] at h;cases hr:(resolve (ev n f) c ty).run P w with
 |ok x w'=>rw[hr] at h;simp only[Result.andThen,Sem.run_pure] at h;exact h
 |halt x w'=>rw[hr] at h;exact h
theorem P3.use{P:Program}{n:Nat}{o:Oper}{f:Fr}{i:Imm}{L:SH}{K:Value→Imm→SH→Prop}(h:P3 P n o f i L K){F:Fence}(hF:Wd F)(ds:List Deferred)(w:World)(hw:St i L w)(next:Act→World→Prop)(Q:Exit→Act→World→Prop)
 (hn:∀v i' L' w',i.le i'→St i' L' w'→K v i' L'→next (ofD n ds (F3 f o.dst v)) w'):o.wpIn F 0 P (ofD n ds f) w next Q:=by
 unfold P3 at h
 have:=h w hw
 unfold Oper.wpIn;refine⟨fun f' _=>hF.fn f',?_⟩;rw[E4x this];unfold D8j at this;split at this
 ·rename_i v w' hr;rw[hr];obtain⟨i',L',h1,h2,h3⟩:=this;simp only[Oper.uponIn,Y2];exact hn v i' L' w' h1 h2 h3
 ·rename_i w' hr;rw[hr];obtain⟨i',L',h1,h2,h3⟩:=this;simp only[Oper.uponIn,Y2];exact hn undef i' L' w' h1 h2 h3
 ·rename_i g args w' hr;rw[hr];simp only[Oper.uponIn];refine⟨hF.depth,hF.calls ?_⟩;refine this.mono ?_;rintro e w'' ⟨v,rfl,i',L',h1,h2,h3⟩;simp only[Y2];exact hn v i' L' w'' h1 h2 h3
 ·rename_i l g tmps assign body w' hr;rw[hr];simp only[Oper.uponIn];refine⟨hF.depth,hF.round ?_⟩;refine this.mono ?_;rintro e w'' ⟨v,rfl,i',L',h1,h2,h3⟩;simp only[Y2];exact hn v i' L' w'' h1 h2 h3
 ·exact this.elim
theorem P3.mono{P:Program}{n:Nat}{o:Oper}{f:Fr}{i:Imm}{L:SH}{K K':Value→Imm→SH→Prop}(h:P3 P n o f i L K)
 (hk:∀v i' L',i.le i'→K v i' L'→K' v i' L'):P3 P n o f i L K':=by
 unfold P3 at*;exact fun w hw=>(h w hw).mono fun v w' ⟨i',L',h1,h2,h3⟩=>⟨i',L',h1,h2,hk v i' L' h1 h3⟩
theorem A4j{P:Program}{n:Nat}{o:Oper}{f g:Fr}{i:Imm}{L:SH}{K:Value→Imm→SH→Prop}(hs:∀cs b,o.op≠ .select cs b)(he:∀x∈o.op.operands,ev n f x=ev n g x)(h:P3 P n o f i L K):P3 P n o g i L K:=by
 unfold P3 at*;rw[execOp_congr o hs he] at h;exact h
theorem M4{P:Program}{n:Nat}{o:Oper}{f:Fr}{i:Imm}{L:SH}{K:Value→Imm→SH→Prop}{v:Value}
 (h:∀w,St i L w→(execOp (ev n f) o).run P w=.ok (.value v) w) (hk:K v i L):P3 P n o f i L K:=by
 unfold P3;intro w hw;rw[h w hw];exact⟨i,L,Imm.le.refl i,hw,hk⟩
theorem F5{P:Program}{n:Nat}{o:Oper}{f:Fr}{i:Imm}{L:SH}{K:Value→Imm→SH→Prop}
 (h:∀w,St i L w→∃v w' i' L',(execOp (ev n f) o).run P w=.ok (.value v) w'∧i.le i'∧St i' L' w'∧K v i' L'):P3 P n o f i L K:=by
 unfold P3;intro w hw;obtain⟨v,w',i',L',hr,hle,hs,hk⟩:=h w hw;rw[hr];exact⟨i',L',hle,hs,hk⟩
theorem A8g{P:Program}{n:Nat}{o:Oper}{f:Fr}{i:Imm}{L:SH}{K:Value→Imm→SH→Prop}
 (h:∀w,St i L w→∃w' i' L',(execOp (ev n f) o).run P w=.ok .skip w'∧i.le i'∧St i' L' w'∧K undef i' L'):P3 P n o f i L K:=by
 unfold P3;intro w hw;obtain⟨w',i',L',hr,hle,hs,hk⟩:=h w hw;rw[hr];exact⟨i',L',hle,hs,hk⟩
def E6(P:Program)(g:FuncId)(args:List Value)(i:Imm)(L:SH)(G3:Value→Imm→SH→Prop):Prop:=
 ∀w,St i L w→Calls P g args.toArray w fun e w'=>∃v i' L',e=.returned v∧i.le i'∧St i' L' w'∧G3 v i' L'
theorem E6.mono{P:Program}{g:FuncId}{args:List Value}{i:Imm}{L:SH}{K K':Value→Imm→SH→Prop}(h:E6 P g args i L K)
 (hk:∀v i' L',i.le i'→K v i' L'→K' v i' L'):E6 P g args i L K':=
 fun w hw=>(h w hw).mono fun _ _ ⟨v,i',L',he,hi,hs,k⟩=>⟨v,i',L',he,hi,hs,hk v i' L' hi k⟩
theorem C1x{P:Program}{n:Nat}{o:Oper}{f:Fr}{i:Imm}{L:SH}{K:Value→Imm→SH→Prop}{g:FuncId}{args:List Value}
 (hx:∀w,(execOp (ev n f) o).run P w=.ok (.enter g args.toArray) w) (h:E6 P g args i L K):P3 P n o f i L K:=by
 unfold P3;intro w hw;rw[hx w];exact(h w hw).mono fun e w' ⟨v,i',L',he,hi,hs,k⟩=>⟨v,he,i',L',hi,hs,k⟩
def wpR(F:Fence)(P:Program)(all:Array Oper)(Q:Exit→Act→World→Prop):List Oper→Act→World→Prop
 |[],a,w=>Q .normal a w
 |o::rest,a,w=>if Region.wanted o (yielded all a.tmps) then o.wpIn F 0 P a w (wpR F P all Q rest) Q else(∀f,o.about P w a.eval=some f→F.fn f)∧wpR F P all Q rest (a.put o.dst undef) w
theorem C4p{F:Fence}{P:Program}{Q:Exit→Act→World→Prop}(all:List Oper):
 ∀(r:List Oper)(k:Nat)(a:Act)(w:World),all.drop k=r→wpR F P all.toArray Q r a w→wpOpsIn F 0 P all.toArray Q ((List.range r.length).map (k+ ·)) a w:=by
 intro r;induction r with
 |nil=>intro k a w _ h;simpa [wpOpsIn,wpR] using h
 |cons o r ih=>
  intro k a w hd h
  have ho:all.toArray[k]?=some o:=by
   have:=congrArg (·[0]?) hd
   simpa using this
  have hd':all.drop (k+1)=r:=by
   rw[←F1u,hd];rfl
  have hl:(List.range (o::r).length).map (k+ ·)=k::(List.range r.length).map (k+1+ ·):=by
   simp only[F1h,List.range_succ_eq_map,F0w,List.map_map,Nat.add_zero,List.cons.injEq,true_and];apply List.map_congr_left;intro x _;simp only[Function.comp];omega
  rw[hl];simp only[wpOpsIn,ho];simp only[wpR] at h;split at h
  ·rename_i hw;rw[if_pos hw];exact Oper.wpIn_mono (fun a w=>ih (k+1) a w hd') h
  ·rename_i hw;rw[if_neg hw];exact⟨h.1,ih (k+1) _ w hd' h.2⟩
def gv(n:Nat)(f:Fr)(all:List Oper)(j:Nat):Option Bool:=
 match(all[j]?).bind (·.dst) with
 |none=>none
 |some d=>match(bif F0e d n then f d else undef) with
  | .bool b=>some b
  |_=>none
def P9(n:Nat)(f:Fr)(all:List Oper)(o:Oper):Bool:=
 match o.guard with
 |none=>true
 |some (j,want)=>match gv n f all j with
  |some b=>b==want
  |none=>false
theorem gv_eq(n:Nat)(ds:List Deferred)(f:Fr)(all:List Oper)(j:Nat):yielded all.toArray (ofD n ds f).tmps j=gv n f all j:=by
 simp only[yielded,gv,List.getElem?_toArray];cases (all[j]?).bind (·.dst) with
 |none=>rfl
 |some d=>
  simp only[Option.bind_some,E5j];cases F0e d n
  ·rfl
  ·simp only[cond_true];cases f d<;>rfl
theorem A9c(n:Nat)(ds:List Deferred)(f:Fr)(all:List Oper)(o:Oper):Region.wanted o (yielded all.toArray (ofD n ds f).tmps)=P9 n f all o:=by
 unfold Region.wanted P9;cases o.guard with
 |none=>rfl
 |some p=>
  obtain⟨j,want⟩:=p;simp only[gv_eq];cases gv n f all j with
  |none=>rfl
  |some b=>rfl
@[irreducible] def RS(P:Program)(all:List Oper)(n:Nat)(r:List Oper)(f:Fr)(i:Imm)(L:SH)(K:Fr→Imm→SH→Prop):Prop:=
 ∀F,Wd F→∀ds w,St i L w→∀Q:Exit→Act→World→Prop,(∀f' i' L' w',i.le i'→St i' L' w'→K f' i' L'→Q .normal (ofD n ds f') w')→wpR F P all.toArray Q r (ofD n ds f) w
section
variable{P:Program}{all:List Oper}{n:Nat}{r:List Oper}{o:Oper}{f:Fr}{i:Imm}{L:SH}{K:Fr→Imm→SH→Prop}
theorem E4g(h:K f i L):RS P all n [] f i L K:=by
 unfold RS;intro F _ ds w hw Q hQ;exact hQ f i L w (Imm.le.refl i) hw h
theorem K5(hg:P9 n f all o=true)(h:P3 P n o f i L fun v i' L'=>RS P all n r (F3 f o.dst v) i' L' K):RS P all n (o::r) f i L K:=by
 unfold RS;intro F hF ds w hw Q hQ;simp only[wpR];rw[if_pos (by rw[A9c];exact hg)];refine h.use hF ds w hw _ _ fun v i' L' w' hi hs k=>?_
 unfold RS at k;exact k F hF ds w' hs Q fun f' i'' L'' w'' hi' hs' k'=>hQ f' i'' L'' w'' (hi.trans hi') hs' k'
theorem D7f(hg:P9 n f all o=false)(h:RS P all n r (F3 f o.dst undef) i L K):RS P all n (o::r) f i L K:=by
 unfold RS at*;intro F hF ds w hw Q hQ;simp only[wpR];rw[if_neg (by rw[A9c,hg];decide),Y2];exact⟨fun f' _=>hF.fn f',h F hF ds w hw Q hQ⟩
theorem A2g(h:∀w,St i L w→∃i' L',i.le i'∧St i' L' w∧RS P all n r f i' L' K):RS P all n r f i L K:=by
 unfold RS;intro F hF ds w hw Q hQ;obtain⟨i',L',hi,hs,k⟩:=h w hw;unfold RS at k;exact k F hF ds w hs Q fun f' i'' L'' w'' hi' hs' k'=>hQ f' i'' L'' w'' (hi.trans hi') hs' k'
end
inductive Ex where
 |normal
 |exit (id:Nat)
 |ret
def Ex.to:Ex→Exit
 | .normal=>.normal
 | .exit id=>.exit id
 | .ret=>.ret
@[irreducible] def CS(P:Program)(n:Nat)(c:Code)(f:Fr)(i:Imm)(L:SH)(Q:Ex→Fr→Imm→SH→Prop):Prop:=
 ∀F,Wd F→∀ds w,St i L w→∀Q':Exit→Act→World→Prop,(∀e f' i' L' w',i.le i'→St i' L' w'→Q e f' i' L'→Q' e.to (ofD n ds f') w')→c.wpIn F 0 P Q' (ofD n ds f) w
@[irreducible] def Q5(next:Fr→Imm→SH→Prop)(Q:Ex→Fr→Imm→SH→Prop):Ex→Fr→Imm→SH→Prop
 | .normal,f,i,L=>next f i L
 |e,f,i,L=>Q e f i L
@[irreducible] def A6f(id:Nat)(next:Fr→Imm→SH→Prop)(Q:Ex→Fr→Imm→SH→Prop):Ex→Fr→Imm→SH→Prop
 | .normal,f,i,L=>next f i L
 | .exit j,f,i,L=>if j=id then next f i L else Q (.exit j) f i L
 | .ret,f,i,L=>Q .ret f i L
@[irreducible] def A6k(K:Fr→Imm→SH→Prop):Ex→Fr→Imm→SH→Prop
 | .exit _,_,_,_=>False
 |_,f,i,L=>K f i L
section
variable{P:Program}{n:Nat}{c x y z:Code}{f:Fr}{i:Imm}{L:SH}{Q:Ex→Fr→Imm→SH→Prop}{next:Fr→Imm→SH→Prop}{K:Fr→Imm→SH→Prop}
theorem A5k(h:next f i L):Q5 next Q .normal f i L:=by unfold Q5;exact h
theorem B1z(h:Q .ret f i L):Q5 next Q .ret f i L:=by unfold Q5;exact h
theorem A9e{j:Nat}(h:Q (.exit j) f i L):Q5 next Q (.exit j) f i L:=by unfold Q5;exact h
theorem B4d{id:Nat}(h:next f i L):A6f id next Q .normal f i L:=by unfold A6f;exact h
theorem C9n{id:Nat}(h:Q .ret f i L):A6f id next Q .ret f i L:=by unfold A6f;exact h
theorem C1u{id:Nat}(h:next f i L):A6f id next Q (.exit id) f i L:=by unfold A6f;simp only[if_true];exact h
theorem Q9{id j:Nat}(hne:E9p j id=false)(h:Q (.exit j) f i L):A6f id next Q (.exit j) f i L:=by
 unfold A6f
 have:j≠id:=fun e=>by simp[e] at hne
 simp only[if_neg this];exact h
theorem E5e(h:K f i L):A6k K .ret f i L:=by unfold A6k;exact h
theorem D0d(h:K f i L):A6k K .normal f i L:=by unfold A6k;exact h
theorem CS.mono{Q':Ex→Fr→Imm→SH→Prop}(h:CS P n c f i L Q)(hq:∀e f' i' L',i.le i'→Q e f' i' L'→Q' e f' i' L'):CS P n c f i L Q':=by
 unfold CS at*;intro F hF ds w hw R hR;exact h F hF ds w hw R fun e f' i' L' w' hi hs q=>hR e f' i' L' w' hi hs (hq e f' i' L' hi q)
theorem D7z(h:Q .normal f i L):CS P n .skip f i L Q:=by
 unfold CS;intro F hF ds w hw R hR;exact wpIn_skip (hR .normal f i L w (Imm.le.refl i) hw h)
theorem E4v(h:Q .ret f i L):CS P n .ret f i L Q:=by
 unfold CS;intro F hF ds w hw R hR;exact wpIn_ret (hR .ret f i L w (Imm.le.refl i) hw h)
theorem D8a{id:Nat}(h:Q (.exit id) f i L):CS P n (.exit id) f i L Q:=by
 unfold CS;intro F hF ds w hw R hR;exact wpIn_exit (hR (.exit id) f i L w (Imm.le.refl i) hw h)
theorem CS.use(h:CS P n c f i L Q){F:Fence}(hF:Wd F)(ds:List Deferred)(w:World)(hw:St i L w)(R:Exit→Act→World→Prop)(hR:∀e f' i' L' w',i.le i'→St i' L' w'→Q e f' i' L'→R e.to (ofD n ds f') w'):c.wpIn F 0 P R (ofD n ds f) w:=by
 unfold CS at h;exact h F hF ds w hw R hR
theorem E4u(h:CS P n x f i L (Q5 (fun f' i' L'=>CS P n y f' i' L' Q) Q)):CS P n (.seq x y) f i L Q:=by
 unfold CS;intro F hF ds w hw R hR;refine wpIn_seq (h.use hF ds w hw _ fun e f' i' L' w' hi hs q=>?_);unfold Q5 at q;cases e with
 |normal=>
  simp only[Ex.to,Exit.then];simp only at q;exact q.use hF ds w' hs R fun e f'' i'' L'' w'' hi' hs' q'=>hR e f'' i'' L'' w'' (hi.trans hi') hs' q'
 |exit id=>exact hR (.exit id) f' i' L' w' hi hs q
 |ret=>exact hR .ret f' i' L' w' hi hs q
theorem A2{cnd:Operand}(hc:ev n f cnd=.bool true)(h:CS P n x f i L Q):CS P n (.cond cnd x y) f i L Q:=by
 unfold CS at*;intro F hF ds w hw R hR;exact wpIn_cond_true (by rw[V7];exact hc) (h F hF ds w hw R hR)
theorem A0{cnd:Operand}(hc:ev n f cnd=.bool false)(h:CS P n y f i L Q):CS P n (.cond cnd x y) f i L Q:=by
 unfold CS at*;intro F hF ds w hw R hR;exact wpIn_cond_false (by rw[V7];exact hc) (h F hF ds w hw R hR)
theorem E8t{id:Nat}(h:CS P n x f i L (A6f id (fun f' i' L'=>Q .normal f' i' L') Q)):CS P n (.block id x) f i L Q:=by
 unfold CS;intro F hF ds w hw R hR;refine wpIn_block (h.use hF ds w hw _ fun e f' i' L' w' hi hs q=>?_);unfold A6f at q;cases e with
 |normal=>exact hR .normal f' i' L' w' hi hs q
 |ret=>exact hR .ret f' i' L' w' hi hs q
 |exit j=>
  simp only[Ex.to,Exit.inBlock];simp only at q;split at q
  ·rename_i e;rw[if_pos e];exact hR .normal f' i' L' w' hi hs q
  ·rename_i e;rw[if_neg e];exact hR (.exit j) f' i' L' w' hi hs q
theorem A3{id:Nat}{ops:List Oper}(h:RS P ops n ops f i L fun f' i' L'=>Q .normal f' i' L'):CS P n (.region id ops.toArray false) f i L Q:=by
 unfold CS;unfold RS at h;intro F hF ds w hw R hR;refine wpIn_region ?_
 have:=C4p ops ops 0 (ofD n ds f) w rfl (h F hF ds w hw R fun f' i' L' w' hi hs k=>hR .normal f' i' L' w' hi hs k)
 simpa using this
def E1p(g:Fr):List Nat→List Value→Fr
 |t::ts,v::vs=>upd (E1p g ts vs) t v
 |_,_=>g
theorem C8d(f:Fr)(slots:List Nat):E1p f slots (slots.map f)=f:=by
 induction slots with
 |nil=>rfl
 |cons t ts ih=>
  simp only[F0w,E1p,ih];funext j;by_cases h:j=t
  ·subst h;rw[K2]
  ·rw[M8 _ _ h]
theorem A6c{F:Fence}{P:Program}{Q:Exit→Act→World→Prop}{a:Act}{w:World}{c:Code}(I:Nat→Act→World→Prop)(n₀:Nat)(h₀:I n₀ a w)
 (round:∀n a w,I n a w→c.wpIn F 0 P (Exit.then (fun a' w'=>∃n',n'<n∧I n' a' w') Q) a w):(Code.loop c).wpIn F 0 P Q a w:=by
 refine wpIn_loop (fun a w=>∃n,I n a w) (fun a w=>leastOf (fun n=>I n a w)) ⟨n₀,h₀⟩ ?_;intro a w hI;refine wpIn_mono (round _ a w (leastOf_spec hI).1) ?_;intro e a' w' hq;cases e with
 |normal=>
  obtain⟨n',hlt,hI'⟩:=hq;exact show(∃n,I n a' w')∧leastOf (fun n=>I n a' w')<leastOf (fun n=>I n a w) from⟨⟨n',hI'⟩,Nat.lt_of_le_of_lt ((leastOf_spec ⟨n',hI'⟩).2 n' hI') hlt⟩
 |exit id=>exact hq
 |goto l=>exact hq
 |ret=>exact hq
 |panic ch=>exact hq
 |outgrown=>exact hq
theorem B1(slots:List Nat)(I:Nat→List Value→Imm→SH→Prop)(m0:Nat)(h0:I m0 (slots.map f) i L)
 (round:∀m g vs i' L',i.le i'→I m vs i' L'→CS P n c (E1p g slots vs) i' L' (Q5 (fun f'' i'' L''=>∃m',m'<m∧I m' (slots.map f'') i'' L'') Q)):CS P n (.loop c) f i L Q:=by
 unfold CS;intro F hF ds w hw R hR;refine A6c (fun m a w=>∃f' i' L',a=ofD n ds f'∧i.le i'∧St i' L' w∧I m (slots.map f') i' L') m0 ⟨f,i,L,rfl,Imm.le.refl i,hw,h0⟩ ?_;rintro m a w1 ⟨f',i',L',rfl,hi,hs,hI⟩
 have:=round m f' _ i' L' hi hI
 rw[C8d] at this;refine this.use hF ds w1 hs _ fun e f'' i'' L'' w'' hi' hs' q=>?_
 unfold Q5 at q;cases e with
 |normal=>
  obtain⟨m',hm,hI'⟩:=q;exact⟨m',hm,f'',i'',L'',rfl,hi.trans hi',hs',hI'⟩
 |exit id=>exact hR (.exit id) f'' i'' L'' w'' (hi.trans hi') hs' q
 |ret=>exact hR .ret f'' i'' L'' w'' (hi.trans hi') hs' q
theorem A4b(h:∀w,St i L w→∃i' L',i.le i'∧St i' L' w∧CS P n c f i' L' Q):CS P n c f i L Q:=by
 unfold CS;intro F hF ds w hw R hR;obtain⟨i',L',hi,hs,k⟩:=h w hw;exact k.use hF ds w hs R fun e f' i'' L'' w'' hi' hs' q=>hR e f' i'' L'' w'' (hi.trans hi') hs' q
end
theorem E6.body{P:Program}{g:FuncId}{fn:Func}{c:Code}{args:List Value}{i:Imm}{L:SH}{G3:Value→Imm→SH→Prop}{n:Nat}
 (hf:P.funcs[g]?=some fn) (hb:fn.body=some c) (hn:fn.ntmps=n) (hl:args.length≤n) (K:Fr→Imm→SH→Prop)
 (hr:∀f i' L' w,St i' L' w→K f i' L'→∃v,(results fn (ofF n f).tmps).run P w=.ok v w∧G3 v i' L')
 (h:CS P n c (A6g 0 args) i L (A6k K)):E6 P g args i L G3:=by
 intro w hw;refine calls_of_wp hf hb ?_;rw[hn,B7y n args hl]
 refine(wpIn_wide (n:=0)).1 ?_
 refine h.use (.inl rfl) [] w hw _ fun e f' i' L' w' hi hs q=>?_
 unfold A6k at q;cases e with
 |normal=>obtain⟨v,hv,hp⟩:=hr f' i' L' w' hs q;exact⟨rfl,v,hv,v,i',L',rfl,hi,hs,hp⟩
 |ret=>obtain⟨v,hv,hp⟩:=hr f' i' L' w' hs q;exact⟨rfl,v,hv,v,i',L',rfl,hi,hs,hp⟩
 |exit id=>exact q.elim
theorem evt(n:Nat)(f:Fr)(t:Nat):(ofF n f).tmps[t]?.getD undef=ev n f (.tmp t):=by rw[←Array.getD_eq_getD_getElem?];exact C8r n [] f t
theorem A5{P:Program}{g:FuncId}{fn:Func}{c:Code}{args:List Value}{i:Imm}{L:SH}{G3:Value→Imm→SH→Prop}{n r:Nat}
 (hf:P.funcs[g]?=some fn) (hb:fn.body=some c) (hn:fn.ntmps=n) (hl:args.length≤n) (hres:fn.results=#[.tmp r])
 (h:CS P n c (A6g 0 args) i L (A6k fun f i' L'=>G3 (ev n f (.tmp r)) i' L')):E6 P g args i L G3:=
 E6.body hf hb hn hl _ (fun f i' L' w _ k=>⟨_,by simp only[results,hres];simp[evt],k⟩) h
theorem D4j{P:Program}{g:FuncId}{fn:Func}{c:Code}{args:List Value}{i:Imm}{L:SH}{G3:Value→Imm→SH→Prop}{n:Nat}
 (hf:P.funcs[g]?=some fn) (hb:fn.body=some c) (hn:fn.ntmps=n) (hl:args.length≤n) (hres:fn.results=#[])
 (h:CS P n c (A6g 0 args) i L (A6k fun _ i' L'=>G3 (.tuple #[]) i' L')):E6 P g args i L G3:=
 E6.body hf hb hn hl _ (fun f i' L' w _ k=>⟨_,by simp only[results,hres];simp,k⟩) h
theorem G4{P:Program}{g:FuncId}{fn:Func}{c:Code}{args:List Value}{i:Imm}{L:SH}{G3:Value→Imm→SH→Prop}{n r s:Nat}
 (hf:P.funcs[g]?=some fn) (hb:fn.body=some c) (hn:fn.ntmps=n) (hl:args.length≤n) (hres:fn.results=#[.tmp r,.tmp s])
 (h:CS P n c (A6g 0 args) i L (A6k fun f i' L'=>G3 (.tuple #[ev n f (.tmp r),ev n f (.tmp s)]) i' L')):E6 P g args i L G3:=
 E6.body hf hb hn hl _ (fun f i' L' w _ k=>⟨_,by simp only[results,hres];simp[evt],k⟩) h
structure TyE where
 desc:TypeDesc
 size:Nat
 bytes:Nat
 zero:List Value
def K4:TypeDesc→Bool
 | .struct _=>true
 | .array _ _=>true
 |_=>false
def zOf(e:TyE):Option Value:=bif K4 e.desc then some (.agg e.zero.toArray) else match e.zero with
 |[v]=>some v
 |_=>none
structure TyE.ok(P:Program)(t:Nat)(e:TyE):Prop where
 und:P.underlying t=some e.desc
 zlen:e.zero.length=e.size
 info:∃i z,P.info? t=some i∧i.size=e.size∧i.bytes=e.bytes∧i.zero=some z∧z.cells=e.zero.toArray
def A9b:TypeDesc→Bool
 | .int _=>true
 | .string=>true
 | .bool=>true
 | .pointer _=>true
 |_=>false
def B2g(n:String):Bool:= !(n== "_" ||n== "typ_" ||n== "Func" ||n== "typ" ||n== "msg" ||n== "Type" ||n== "Method" ||n== "_interface" ||n== "Size_")
def B1p:TypeDesc→Bool
 | .struct fs=>fs.toList.all fun f=>B2g f.name
 |_=>false
def B9(P:Program)(t:Nat)(e:TyE):Prop:=(∀i y,P.info? t=some i→zOf e=some y→i.zero=some y)∧(∀i,P.info? t=some i→A9b e.desc=true→i.comparable=true)∧(B1p e.desc=true→P.stoodInHeld t=false∧P.eqGuardType P.depth t=false)
abbrev F7:=List (Nat×TyE)
def F7.ok(P:Program)(T:F7):Prop:=∀p∈T,TyE.ok P p.1 p.2∧B9 P p.1 p.2
def D6:F7→Nat→Option TyE
 |[],_=>none
 |(s,e)::T,t=>bif E9p t s then some e else D6 T t
theorem A6z{P:Program}{T:F7}(h:T.ok P){t:Nat}{e:TyE}(ht:D6 T t=some e):TyE.ok P t e∧B9 P t e:=by
 induction T with
 |nil=>cases ht
 |cons p T ih=>
  obtain⟨s,e'⟩:=p;simp only[D6] at ht;cases hb:E9p t s with
  |true=>
   rw[hb] at ht;cases ht
   have:=E9m hb
   subst this;exact h (t,e) (F0g ..)
  |false=>
   rw[hb] at ht;exact ih (fun p hp=>h p (E9u _ hp)) ht
theorem B6{P:Program}{T:F7}(h:T.ok P){t:Nat}{e:TyE}(ht:D6 T t=some e):TyE.ok P t e:=(A6z h ht).1
def sv:Value→Option Value
 | .bool b=>some (.bool b)
 | .int k n=>some (.int k n)
 | .float k b=>some (.float k b)
 | .complex k a b=>some (.complex k a b)
 | .string s=>some (.string s)
 | .pointer a=>some (.pointer a)
 | .slice a l c=>some (.slice a l c)
 | .map r=>some (.map r)
 | .chan r=>some (.chan r)
 | .func a b c=>some (.func a b c)
 | .nilFunc=>some .nilFunc
 | .iface t v=>some (.iface t v)
 | .nilIface=>some .nilIface
 | .agg cs=>some (.agg cs)
 | .tuple vs=>some (.tuple vs)
theorem A2c(v:Value):sv v=some v:=by cases v<;>rfl
def A9r{α:Type}:Nat→List α→Option (List α)
 |0,_=>some []
 |k+1,a::l=>match A9r k l with
  |some r=>some (a::r)
  |none=>none
 |_+1,[]=>none
theorem B6t{α:Type}:∀(k:Nat)(l r:List α),A9r k l=some r→l.take k=r∧r.length=k
 |0,l,r,h=>by cases h;exact⟨rfl,rfl⟩
 |k+1,[],r,h=>by cases h
 |k+1,a::l,r,h=>by
  simp only[A9r] at h;split at h
  ·rename_i r' h';cases h;obtain⟨e1,e2⟩:=B6t k l r' h';exact⟨by simp[e1],by simp[e2]⟩
  ·cases h
def B9u{α:Type}:List α→Nat→α→Option (List α)
 |[],_,_=>none
 |_::l,0,v=>some (v::l)
 |a::l,k+1,v=>match B9u l k v with
  |some r=>some (a::r)
  |none=>none
theorem B0a{α:Type}:∀(l:List α)(k:Nat)(v:α)(r:List α),B9u l k v=some r→l.set k v=r∧k<l.length
 |[],k,v,r,h=>by cases h
 |_::l,0,v,r,h=>by cases h;exact⟨rfl,by simp⟩
 |a::l,k+1,v,r,h=>by
  simp only[B9u] at h;split at h
  ·rename_i r' h';cases h;obtain⟨e1,e2⟩:=B0a l k v r' h';exact⟨by simp[e1],by simp;omega⟩
  ·cases h
@[irreducible] def PV(P:Program)(n:Nat)(f:Fr)(o:Oper)(v:Value):Prop:=∀w,(execOp (ev n f) o).run P w=.ok (.value v) w
@[irreducible] def LV(P:Program)(n:Nat)(f:Fr)(i:Imm)(L:SH)(o:Oper)(v:Value):Prop:=∀w,St i L w→(execOp (ev n f) o).run P w=.ok (.value v) w
section
variable{P:Program}{all:List Oper}{n:Nat}{r:List Oper}{f:Fr}{i:Imm}{L:SH}{K:Fr→Imm→SH→Prop}{v:Value}
theorem A6{dst:Option Nat}{op:Op}{ty:TypeId}{pos:String}{B4:Array Edge}{gd:Option (Nat×Bool)}(h:PV P n f ⟨dst,op,ty,pos,B4,gd⟩ v)(hg:P9 n f all ⟨dst,op,ty,pos,B4,gd⟩=true)(k:RS P all n r (F3 f dst v) i L K):RS P all n (⟨dst,op,ty,pos,B4,gd⟩::r) f i L K:=
 by unfold PV at h;exact K5 hg (M4 (fun w _=>h w) k)
theorem D4{dst:Option Nat}{op:Op}{ty:TypeId}{pos:String}{B4:Array Edge}{gd:Option (Nat×Bool)}(h:LV P n f i L ⟨dst,op,ty,pos,B4,gd⟩ v)(hg:P9 n f all ⟨dst,op,ty,pos,B4,gd⟩=true)(k:RS P all n r (F3 f dst v) i L K):RS P all n (⟨dst,op,ty,pos,B4,gd⟩::r) f i L K:=
 by unfold LV at h;exact K5 hg (M4 h k)
end
section
variable{P:Program}{n:Nat}{f:Fr}{dst:Option Nat}{ty:TypeId}{pos:String}{B4:Array Edge}{gd:Option (Nat×Bool)}{v:Value}{T:F7}
theorem B5n{x:Operand}(h:sv (ev n f x)=some v):PV P n f ⟨dst,.move x,ty,pos,B4,gd⟩ v:=by
 unfold PV;intro w;rw[A2c] at h;cases h;simp[execOp]
theorem A1z{x:Operand}(h:sv (ev n f x)=some v):PV P n f ⟨dst,.assign x,ty,pos,B4,gd⟩ v:=by
 unfold PV;intro w;rw[A2c] at h;cases h;simp[execOp]
theorem C9u{c a b:Operand}(hc:ev n f c=.bool true)(h:sv (ev n f a)=some v):PV P n f ⟨dst,.pick c a b,ty,pos,B4,gd⟩ v:=by
 unfold PV;intro w;rw[A2c] at h;cases h;simp[execOp,hc,asBool]
theorem C9v{c a b:Operand}(hc:ev n f c=.bool false)(h:sv (ev n f b)=some v):PV P n f ⟨dst,.pick c a b,ty,pos,B4,gd⟩ v:=by
 unfold PV;intro w;rw[A2c] at h;cases h;simp[execOp,hc,asBool]
theorem B4g{x:Operand}{a:Addr}(hx:ev n f x=.pointer (some a)):PV P n f ⟨dst,.nilCheck x,ty,pos,B4,gd⟩ (.pointer (some a)):=by
 unfold PV;intro w;simp[execOp,hx]
theorem A5f{x:Operand}{ix:Nat}{vs:Array Value}(hx:ev n f x=.tuple vs)(h:vs[ix]?=some v):PV P n f ⟨dst,.extract x ix,ty,pos,B4,gd⟩ v:=by
 unfold PV;intro w;simp[execOp,hx,Instr.extract,h]
def E2y(T:F7)(s fld:Nat):Option Nat:=
 match D6 T s with
 |some ⟨.struct fs,_,_,_⟩=>match fs[fld]? with
  |some fd=>match D6 T fd.type with
   |some e=>bif E9p e.size 0 then none else some fd.offset
   |none=>none
  |none=>none
 |_=>none
theorem E8(b o k:Nat):(⟨b,o,none⟩:Addr).add k=⟨b,o+k,none⟩:=by
 unfold Addr.add;split
 ·rename_i h;subst h;rfl
 ·rfl
theorem E0{t:TypeId}{i:TypeInfo}(h:P.info? t=some i)(w:World):(typeInfo t).run P w=.ok i w:=by
 simp[typeInfo,h]
theorem A5r(hT:T.ok P){s fld:Nat}{x:Operand}{b o off:Nat}(hx:ev n f x=.pointer (some ⟨b,o,none⟩))(h:E2y T s fld=some off):
 PV P n f ⟨dst,.fieldAddr s x fld,ty,pos,B4,gd⟩ (.pointer (some ⟨b,o+off,none⟩)):=by
 unfold PV;intro w;unfold E2y at h;split at h
 ·rename_i fs _ _ _ he;split at h
  ·rename_i fd hfd;split at h
   ·rename_i e hee;cases hb:E9p e.size 0 with
    |true=>rw[hb] at h;cases h
    |false=>
     rw[hb] at h;cases h;have h1:=(B6 hT he).und;obtain⟨_,_,i,z,hi,hs,_⟩:=B6 hT hee;have hne:e.size≠0:=fun e0=>by rw[e0] at hb;cases hb
     simp[execOp,hx,Instr.fieldAt,run_underlying h1,hfd,Instr.sureAddr,fieldPlace,sizeOf,E0 hi,hs,hne,E8]
   ·cases h
  ·cases h
 ·cases h
def E2x(T:F7)(s fld:Nat)(cs:List Value):Option Value:=
 match D6 T s with
 |some ⟨.struct fs,_,_,_⟩=>match fs[fld]? with
  |some fd=>match D6 T fd.type with
   |some e=>bif K4 e.desc then(match A9r e.size (cs.drop fd.offset) with|some l=>some (.agg l.toArray)|none=>none) else(match cs[fd.offset]? with|some v=>sv v|none=>none)
   |none=>none
  |none=>none
 |_=>none
theorem U5{t:TypeId}{d:TypeDesc}(h:P.underlying t=some d)(w:World):(isAgg t).run P w=.ok (K4 d) w:=by
 cases d<;>simp[isAgg,run_underlying h,K4]
theorem B8f(hT:T.ok P){s fld:Nat}{x:Operand}{cs:List Value}(hx:ev n f x=.agg cs.toArray)(h:E2x T s fld cs=some v):
 PV P n f ⟨dst,.field s x fld,ty,pos,B4,gd⟩ v:=by
 unfold PV;intro w;unfold E2x at h;split at h
 ·rename_i fs _ _ _ he;split at h
  ·rename_i fd hfd;split at h
   ·rename_i e hee;have h1:=(B6 hT he).und;obtain⟨h2,_,i,z,hi,hs,_⟩:=B6 hT hee;cases hb:K4 e.desc with
    |true=>
     simp only[hb,cond_true] at h;split at h
     ·rename_i l hl;cases h;obtain⟨e1,e2⟩:=B6t _ _ _ hl
      have:cs.toArray.extract fd.offset (fd.offset+e.size)=l.toArray:=by
       rw[←e1];simp
      simp[execOp,hx,Instr.field,run_underlying h1,hfd,asAgg,part,U5 h2,hb,sizeOf,E0 hi,hs,e1]
     ·cases h
    |false=>
     simp only[hb,cond_false] at h;split at h
     ·rename_i u hu;rw[A2c] at h;cases h;simp[execOp,hx,Instr.field,run_underlying h1,hfd,asAgg,part,U5 h2,hb,hu]
     ·cases h
   ·cases h
  ·cases h
 ·cases h
theorem T9{fn:Fn}{a c:Array Operand}:PV P n f ⟨dst,.makeFunc fn a c,ty,pos,B4,gd⟩ (.func fn (a.toList.map (ev n f)).toArray (c.toList.map (ev n f)).toArray):=by
 unfold PV;intro w;have h1:a.map (ev n f)=(a.toList.map (ev n f)).toArray:=F1w (by simp);have h2:c.map (ev n f)=(c.toList.map (ev n f)).toArray:=F1w (by simp);simp only[execOp,Instr.makeFunc,h1,h2];rfl
theorem E4j{t:Nat}{x:Operand}{b:Bool}(hx:ev n f x=.bool b):PV P n f ⟨dst,.unOp .not t x,ty,pos,B4,gd⟩ (.bool (!b)):=by
 unfold PV;intro w;simp[execOp,hx,Op.unary]
theorem A9y(n:Int)(h: -9223372036854775808≤n∧n≤9223372036854775807):IntKind.i64.wrap n=n:=by
 rw[IntKind.wrap_i64];omega
section
variable{t t2:Nat}{x y:Operand}{a b:Int}
theorem A3n(hx:ev n f x=.int .i64 a)(hy:ev n f y=.int .i64 b)(h: -9223372036854775808≤a+b∧a+b≤9223372036854775807):
 PV P n f ⟨dst,.binOp .add t x y t2,ty,pos,B4,gd⟩ (.int .i64 (a+b)):=by
 unfold PV;intro w;simp[execOp,hx,hy,eqGuard,binOp,Op.intArith,A9y _ h]
theorem H3(hx:ev n f x=.int .i64 a)(hy:ev n f y=.int .i64 b)(h: -9223372036854775808≤a-b∧a-b≤9223372036854775807):
 PV P n f ⟨dst,.binOp .sub t x y t2,ty,pos,B4,gd⟩ (.int .i64 (a-b)):=by
 unfold PV;intro w;simp[execOp,hx,hy,eqGuard,binOp,Op.intArith,A9y _ h]
theorem E4k(hx:ev n f x=.int .i64 a)(hy:ev n f y=.int .i64 b)(h: -9223372036854775808≤a*b∧a*b≤9223372036854775807):
 PV P n f ⟨dst,.binOp .mul t x y t2,ty,pos,B4,gd⟩ (.int .i64 (a*b)):=by
 unfold PV;intro w;simp[execOp,hx,hy,eqGuard,binOp,Op.intArith,A9y _ h]
theorem D2p(hx:ev n f x=.int .i64 a)(hy:ev n f y=.int .i64 b)(h:b≠0):
 PV P n f ⟨dst,.binOp .rem t x y t2,ty,pos,B4,gd⟩ (.int .i64 (a.tmod b)):=by
 unfold PV;intro w;simp[execOp,hx,hy,eqGuard,binOp,Op.intDiv,h]
theorem Y5{k:IntKind}(hx:ev n f x=.int k a)(hy:ev n f y=.int k b)(h:a<b):PV P n f ⟨dst,.binOp .lss t x y t2,ty,pos,B4,gd⟩ (.bool true):=by
 unfold PV;intro w;simp[execOp,hx,hy,eqGuard,binOp,Op.intCmp,h]
theorem A0j{k:IntKind}(hx:ev n f x=.int k a)(hy:ev n f y=.int k b)(h:b≤a):PV P n f ⟨dst,.binOp .lss t x y t2,ty,pos,B4,gd⟩ (.bool false):=by
 unfold PV;intro w;simp[execOp,hx,hy,eqGuard,binOp,Op.intCmp,h]
theorem A2y{k:IntKind}(hx:ev n f x=.int k a)(hy:ev n f y=.int k b)(h:a≤b):PV P n f ⟨dst,.binOp .leq t x y t2,ty,pos,B4,gd⟩ (.bool true):=by
 unfold PV;intro w;simp[execOp,hx,hy,eqGuard,binOp,Op.intCmp,h]
theorem A2z{k:IntKind}(hx:ev n f x=.int k a)(hy:ev n f y=.int k b)(h:b<a):PV P n f ⟨dst,.binOp .leq t x y t2,ty,pos,B4,gd⟩ (.bool false):=by
 unfold PV;intro w;simp[execOp,hx,hy,eqGuard,binOp,Op.intCmp,h]
theorem J4{k:IntKind}(hx:ev n f x=.int k a)(hy:ev n f y=.int k b)(h:b<a):PV P n f ⟨dst,.binOp .gtr t x y t2,ty,pos,B4,gd⟩ (.bool true):=by
 unfold PV;intro w;simp[execOp,hx,hy,eqGuard,binOp,Op.intCmp,h]
theorem I0{k:IntKind}(hx:ev n f x=.int k a)(hy:ev n f y=.int k b)(h:a≤b):PV P n f ⟨dst,.binOp .gtr t x y t2,ty,pos,B4,gd⟩ (.bool false):=by
 unfold PV;intro w;simp[execOp,hx,hy,eqGuard,binOp,Op.intCmp,h]
theorem A3a{k:IntKind}(hx:ev n f x=.int k a)(hy:ev n f y=.int k b)(h:b≤a):PV P n f ⟨dst,.binOp .geq t x y t2,ty,pos,B4,gd⟩ (.bool true):=by
 unfold PV;intro w;simp[execOp,hx,hy,eqGuard,binOp,Op.intCmp,h]
theorem A1p{k:IntKind}(hx:ev n f x=.int k a)(hy:ev n f y=.int k b)(h:a<b):PV P n f ⟨dst,.binOp .geq t x y t2,ty,pos,B4,gd⟩ (.bool false):=by
 unfold PV;intro w;simp[execOp,hx,hy,eqGuard,binOp,Op.intCmp,h]
theorem G9{k:IntKind}(hx:ev n f x=.int k a)(hy:ev n f y=.int k b)(h:a=b):PV P n f ⟨dst,.binOp .eql t x y t2,ty,pos,B4,gd⟩ (.bool true):=by
 unfold PV;intro w;simp[execOp,hx,hy,eqGuard,binOp,Op.intCmp,h]
theorem H5{k:IntKind}(hx:ev n f x=.int k a)(hy:ev n f y=.int k b)(h:a≠b):PV P n f ⟨dst,.binOp .eql t x y t2,ty,pos,B4,gd⟩ (.bool false):=by
 unfold PV;intro w;simp[execOp,hx,hy,eqGuard,binOp,Op.intCmp,h]
theorem T1{k:IntKind}(hx:ev n f x=.int k a)(hy:ev n f y=.int k b)(h:a≠b):PV P n f ⟨dst,.binOp .neq t x y t2,ty,pos,B4,gd⟩ (.bool true):=by
 unfold PV;intro w;simp[execOp,hx,hy,eqGuard,binOp,Op.intCmp,h]
theorem T3{k:IntKind}(hx:ev n f x=.int k a)(hy:ev n f y=.int k b)(h:a=b):PV P n f ⟨dst,.binOp .neq t x y t2,ty,pos,B4,gd⟩ (.bool false):=by
 unfold PV;intro w;simp[execOp,hx,hy,eqGuard,binOp,Op.intCmp,h]
theorem B0x{p q:ByteArray}(hx:ev n f x=.string p)(hy:ev n f y=.string q)(h:p.toList=q.toList):PV P n f ⟨dst,.binOp .eql t x y t2,ty,pos,B4,gd⟩ (.bool true):=by
 unfold PV;intro w;simp[execOp,hx,hy,eqGuard,binOp,Op.stringOp,h]
theorem B0y{p q:ByteArray}(hx:ev n f x=.string p)(hy:ev n f y=.string q)(h:p.toList≠q.toList):PV P n f ⟨dst,.binOp .eql t x y t2,ty,pos,B4,gd⟩ (.bool false):=by
 unfold PV;intro w;simp[execOp,hx,hy,eqGuard,binOp,Op.stringOp,h]
theorem B8d{p q:ByteArray}(hx:ev n f x=.string p)(hy:ev n f y=.string q)(h:p.toList≠q.toList):PV P n f ⟨dst,.binOp .neq t x y t2,ty,pos,B4,gd⟩ (.bool true):=by
 unfold PV;intro w;simp[execOp,hx,hy,eqGuard,binOp,Op.stringOp,h]
theorem B8e{p q:ByteArray}(hx:ev n f x=.string p)(hy:ev n f y=.string q)(h:p.toList=q.toList):PV P n f ⟨dst,.binOp .neq t x y t2,ty,pos,B4,gd⟩ (.bool false):=by
 unfold PV;intro w;simp[execOp,hx,hy,eqGuard,binOp,Op.stringOp,h]
end
def T5:TypeDesc→Bool
 | .pointer _=>true
 |_=>false
def A1e:TypeDesc→Bool
 | .slice _=>true
 |_=>false
def A6w:TypeDesc→Bool
 | .map _ _=>true
 |_=>false
def R5(T:F7)(p:TypeDesc→Bool)(t:Nat):Bool:=
 match D6 T t with
 |some e=>p e.desc
 |none=>false
theorem A4z(hT:T.ok P){t:Nat}(h:R5 T T5 t=true):∃e,P.underlying t=some (.pointer e):=by
 unfold R5 at h;split at h
 ·rename_i e he;have h1:=(B6 hT he).und;cases hd:e.desc<;>rw[hd] at h<;>first|exact⟨_,by rw[h1,hd]⟩|cases h
 ·cases h
theorem B6e(hT:T.ok P){t:Nat}(h:R5 T A1e t=true):∃e,P.underlying t=some (.slice e):=by
 unfold R5 at h;split at h
 ·rename_i e he;have h1:=(B6 hT he).und;cases hd:e.desc<;>rw[hd] at h<;>first|exact⟨_,by rw[h1,hd]⟩|cases h
 ·cases h
theorem C3h(hT:T.ok P){t:Nat}(h:R5 T A6w t=true):∃k e,P.underlying t=some (.map k e):=by
 unfold R5 at h;split at h
 ·rename_i e he;have h1:=(B6 hT he).und;cases hd:e.desc<;>rw[hd] at h<;>first|exact⟨_,_,by rw[h1,hd]⟩|cases h
 ·cases h
section
variable{t t2:Nat}{x y:Operand}
theorem D0b{t e:Nat}(h:P.underlying t=some (.pointer e))(p:Option Addr)(d:Nat)(w:World):(Op.equalIn (d+1) t (.pointer p) (.pointer none)).run P w=.ok p.isNone w:=by
 cases p<;>simp[Op.equalIn,run_underlying h]
theorem A2j{t e:Nat}(h:P.underlying t=some (.pointer e))(p:Option Addr)(w:World):(Op.equal t (.pointer p) (.pointer none)).run P w=.ok p.isNone w:=
 D0b h p 9999 w
theorem D3b{t e:Nat}(h:P.underlying t=some (.slice e))(p:Option Addr)(l c:Nat)(d:Nat)(w:World):(Op.equalIn (d+1) t (.slice p l c) (.slice none 0 0)).run P w=.ok p.isNone w:=by
 cases p<;>simp[Op.equalIn,run_underlying h]
theorem B2e{t e:Nat}(h:P.underlying t=some (.slice e))(p:Option Addr)(l c:Nat)(w:World):(Op.equal t (.slice p l c) (.slice none 0 0)).run P w=.ok p.isNone w:=
 D3b h p l c 9999 w
theorem D0c{t k e:Nat}(h:P.underlying t=some (.map k e))(p:Option Nat)(d:Nat)(w:World):(Op.equalIn (d+1) t (.map p) (.map none)).run P w=.ok p.isNone w:=by
 cases p<;>simp[Op.equalIn,run_underlying h]
theorem A9g{t k e:Nat}(h:P.underlying t=some (.map k e))(p:Option Nat)(w:World):(Op.equal t (.map p) (.map none)).run P w=.ok p.isNone w:=
 D0c h p 9999 w
theorem D0a{t e:Nat}(h:P.underlying t=some (.pointer e))(p:Option Addr)(d:Nat)(w:World):(Op.equalIn (d+1) t (.pointer none) (.pointer p)).run P w=.ok p.isNone w:=by
 cases p<;>simp[Op.equalIn,run_underlying h]
theorem A9f{t e:Nat}(h:P.underlying t=some (.pointer e))(p:Option Addr)(w:World):(Op.equal t (.pointer none) (.pointer p)).run P w=.ok p.isNone w:=
 D0a h p 9999 w
theorem E7x(hT:T.ok P)(ht:R5 T T5 t=true){a:Addr}(hx:ev n f x=.pointer none)(hy:ev n f y=.pointer (some a)):PV P n f ⟨dst,.binOp .eql t x y t2,ty,pos,B4,gd⟩ (.bool false):=by
 unfold PV;intro w;obtain⟨e,he⟩:=A4z hT ht;simp[execOp,hx,hy,eqGuard,binOp,A9f he]
theorem E7q(hT:T.ok P)(ht:R5 T T5 t=true){a:Addr}(hx:ev n f x=.pointer none)(hy:ev n f y=.pointer (some a)):PV P n f ⟨dst,.binOp .neq t x y t2,ty,pos,B4,gd⟩ (.bool true):=by
 unfold PV;intro w;obtain⟨e,he⟩:=A4z hT ht;simp[execOp,hx,hy,eqGuard,binOp,A9f he]
theorem E7w(hT:T.ok P)(ht:R5 T T5 t=true)(hx:ev n f x=.pointer none)(hy:ev n f y=.pointer none):PV P n f ⟨dst,.binOp .eql t x y t2,ty,pos,B4,gd⟩ (.bool true):=by
 unfold PV;intro w;obtain⟨e,he⟩:=A4z hT ht;simp[execOp,hx,hy,eqGuard,binOp,A2j he]
theorem E7v(hT:T.ok P)(ht:R5 T T5 t=true){a:Addr}(hx:ev n f x=.pointer (some a))(hy:ev n f y=.pointer none):PV P n f ⟨dst,.binOp .eql t x y t2,ty,pos,B4,gd⟩ (.bool false):=by
 unfold PV;intro w;obtain⟨e,he⟩:=A4z hT ht;simp[execOp,hx,hy,eqGuard,binOp,A2j he]
theorem E7p(hT:T.ok P)(ht:R5 T T5 t=true)(hx:ev n f x=.pointer none)(hy:ev n f y=.pointer none):PV P n f ⟨dst,.binOp .neq t x y t2,ty,pos,B4,gd⟩ (.bool false):=by
 unfold PV;intro w;obtain⟨e,he⟩:=A4z hT ht;simp[execOp,hx,hy,eqGuard,binOp,A2j he]
theorem E7n(hT:T.ok P)(ht:R5 T T5 t=true){a:Addr}(hx:ev n f x=.pointer (some a))(hy:ev n f y=.pointer none):PV P n f ⟨dst,.binOp .neq t x y t2,ty,pos,B4,gd⟩ (.bool true):=by
 unfold PV;intro w;obtain⟨e,he⟩:=A4z hT ht;simp[execOp,hx,hy,eqGuard,binOp,A2j he]
theorem E7u(hT:T.ok P)(ht:R5 T A1e t=true){l c:Nat}(hx:ev n f x=.slice none l c)(hy:ev n f y=.slice none 0 0):PV P n f ⟨dst,.binOp .eql t x y t2,ty,pos,B4,gd⟩ (.bool true):=by
 unfold PV;intro w;obtain⟨e,he⟩:=B6e hT ht;simp[execOp,hx,hy,eqGuard,binOp,B2e he]
theorem E7t(hT:T.ok P)(ht:R5 T A1e t=true){a:Addr}{l c:Nat}(hx:ev n f x=.slice (some a) l c)(hy:ev n f y=.slice none 0 0):PV P n f ⟨dst,.binOp .eql t x y t2,ty,pos,B4,gd⟩ (.bool false):=by
 unfold PV;intro w;obtain⟨e,he⟩:=B6e hT ht;simp[execOp,hx,hy,eqGuard,binOp,B2e he]
theorem E7z(hT:T.ok P)(ht:R5 T A6w t=true)(hx:ev n f x=.map none)(hy:ev n f y=.map none):PV P n f ⟨dst,.binOp .eql t x y t2,ty,pos,B4,gd⟩ (.bool true):=by
 unfold PV;intro w;obtain⟨k,e,he⟩:=C3h hT ht;simp[execOp,hx,hy,eqGuard,binOp,A9g he]
theorem E7y(hT:T.ok P)(ht:R5 T A6w t=true){a:Nat}(hx:ev n f x=.map (some a))(hy:ev n f y=.map none):PV P n f ⟨dst,.binOp .eql t x y t2,ty,pos,B4,gd⟩ (.bool false):=by
 unfold PV;intro w;obtain⟨k,e,he⟩:=C3h hT ht;simp[execOp,hx,hy,eqGuard,binOp,A9g he]
end
theorem C4k(hT:T.ok P){t:Nat}{x:Operand}{a:Option Addr}{l c:Nat}(ht:R5 T A1e t=true)(hx:ev n f x=.slice a l c):
 PV P n f ⟨dst,.call ⟨.builtin .len,#[x],#[t]⟩,ty,pos,B4,gd⟩ (.int .i64 l):=by
 unfold PV;intro w;obtain⟨e,he⟩:=B6e hT ht;simp[execOp,resolve,invoke,builtin,Builtin.len_,hx,run_underlying he,goInt]
def P1:TypeDesc→Bool
 | .string=>true
 |_=>false
theorem B5d(hT:T.ok P){t:Nat}(h:R5 T P1 t=true):P.underlying t=some .string:=by
 unfold R5 at h;split at h
 ·rename_i e he;have h1:=(B6 hT he).und;cases hd:e.desc<;>rw[hd] at h<;>first|(cases h;done)|(rw[h1,hd];done)
 ·cases h
theorem D7n(hT:T.ok P){t:Nat}{x:Operand}{s:ByteArray}(ht:R5 T P1 t=true)(hx:ev n f x=.string s):
 PV P n f ⟨dst,.call ⟨.builtin .len,#[x],#[t]⟩,ty,pos,B4,gd⟩ (.int .i64 s.size):=by
 unfold PV;intro w;have he:=B5d hT ht;simp[execOp,resolve,invoke,builtin,Builtin.len_,hx,run_underlying he,goInt]
theorem D7m{t1 t2:Nat}{x y:Operand}{a b:Int}(hx:ev n f x=.int .i64 a)(hy:ev n f y=.int .i64 b):
 PV P n f ⟨dst,.call ⟨.builtin .max,#[x,y],#[t1,t2]⟩,ty,pos,B4,gd⟩ (.int .i64 (max a b)):=by
 unfold PV;intro w
 have:(if a<b then b else a)=max a b:=by omega
 simp[execOp,resolve,invoke,builtin,Builtin.max_,Builtin.max2,hx,hy,this]
theorem D7k{t1 t2:Nat}{x y:Operand}{a b:Int}(hx:ev n f x=.int .i64 a)(hy:ev n f y=.int .i64 b):
 PV P n f ⟨dst,.call ⟨.builtin .min,#[x,y],#[t1,t2]⟩,ty,pos,B4,gd⟩ (.int .i64 (min a b)):=by
 unfold PV;intro w
 have:(if b<a then b else a)=min a b:=by omega
 simp[execOp,resolve,invoke,builtin,Builtin.min_,Builtin.min2,hx,hy,this]
def A3v(T:F7)(t:Nat):Option Nat:=
 match D6 T t with
 |some ⟨.slice e,_,_,_⟩=>match D6 T e with
  |some x=>some x.size
  |none=>none
 |_=>none
theorem A0h(hT:T.ok P){t sz:Nat}(h:A3v T t=some sz):∃e i z x,P.underlying t=some (.slice e)∧P.info? e=some i∧i.size=sz∧i.zero=some z∧D6 T e=some x∧x.size=sz∧i.bytes=x.bytes∧z.cells=x.zero.toArray:=by
 unfold A3v at h;split at h
 ·rename_i e _ _ _ he;split at h
  ·rename_i x hx;cases h;obtain⟨_,_,i,z,h1,h2,h3,h4,h5⟩:=B6 hT hx;exact⟨e,i,z,x,(B6 hT he).und,h1,h2,h4,hx,rfl,h3,h5⟩
  ·cases h
 ·cases h
theorem A9(hT:T.ok P){t sz:Nat}{x y:Operand}{b o l c:Nat}{j:Int}{k:IntKind}(hx:ev n f x=.slice (some ⟨b,o,none⟩) l c)(hy:ev n f y=.int k j)(hs:A3v T t=some sz)
 (h:0≤j∧j<l):PV P n f ⟨dst,.indexAddr t x y,ty,pos,B4,gd⟩ (.pointer (some ⟨b,o+j.toNat*sz,none⟩)):=by
 unfold PV;intro w;obtain⟨e,i,z,x',h1,h2,h3,h4,_⟩:=A0h hT hs;simp[execOp,hx,hy,Instr.indexAt,asIntOf,run_underlying h1,h,sizeOf,E0 h2,h3,E8]
def D8h(T:F7)(t:Nat):Option (Nat×Nat):=
 match D6 T t with
 |some ⟨.array l e,_,_,_⟩=>match D6 T e with
  |some x=>some (l,x.size)
  |none=>none
 |_=>none
theorem D7c(hT:T.ok P){t l sz:Nat}(h:D8h T t=some (l,sz)):∃e i,P.underlying t=some (.array l e)∧P.info? e=some i∧i.size=sz:=by
 unfold D8h at h;split at h
 ·rename_i e _ _ _ he;split at h
  ·rename_i x hx;cases h;obtain⟨_,_,i,z,h1,h2,h3,h4,h5⟩:=B6 hT hx;exact⟨e,i,(B6 hT he).und,h1,h2⟩
  ·cases h
 ·cases h
theorem G6(hT:T.ok P){t sz l:Nat}{x y:Operand}{b o:Nat}{j:Int}{k:IntKind}(hx:ev n f x=.pointer (some ⟨b,o,none⟩))(hy:ev n f y=.int k j)(hs:D8h T t=some (l,sz))
 (h:0≤j∧j<l):PV P n f ⟨dst,.indexAddr t x y,ty,pos,B4,gd⟩ (.pointer (some ⟨b,o+j.toNat*sz,none⟩)):=by
 unfold PV;intro w;obtain⟨e,i,h1,h2,h3⟩:=D7c hT hs;simp[execOp,hx,hy,Instr.indexAt,asIntOf,run_underlying h1,h,sizeOf,E0 h2,h3,E8,Instr.sureAddr]
def U9:List Value→Nat→List Value→Option (List Value)
 |cs,_,[]=>some cs
 |cs,off,v::vs=>match B9u cs off v with
  |some cs'=>U9 cs' (off+1) vs
  |none=>none
def A6y(fs:Array Field)(T:F7):List Value→List (Nat×List Value)→Option (List Value)
 |cs,[]=>some cs
 |cs,(i,vs)::rest=>match fs[i]? with
  |some fd=>match D6 T fd.type with
   |some e=>bif E9p vs.length e.size&&F0e 0 vs.length then(match U9 cs fd.offset vs with|some cs'=>A6y fs T cs' rest|none=>none) else none
   |none=>none
  |none=>none
def M5:Value→Option (List Value)
 | .agg cs=>some cs.toList
 | .bool b=>some [.bool b]
 | .int k n=>some [.int k n]
 | .string s=>some [.string s]
 | .pointer a=>some [.pointer a]
 | .slice a l c=>some [.slice a l c]
 | .map r=>some [.map r]
 | .func a b c=>some [.func a b c]
 | .nilFunc=>some [.nilFunc]
 | .iface t v=>some [.iface t v]
 | .nilIface=>some [.nilIface]
 |_=>none
theorem A4f{v:Value}{l:List Value}(h:M5 v=some l):v.cells=l.toArray:=by
 cases v<;>cases h<;>rfl
end
def Has(i:Imm)(L:SH)(b:Nat)(o:Obj):Prop:=i.blk b=some o∨(b,o)∈L
theorem Has.own{i:Imm}{L:SH}{b:Nat}{o:Obj}(k:Nat)(h:L[k]?=some (b,o)):Has i L b o:=.inr (E9g h)
theorem Has.imm{i:Imm}{L:SH}{b:Nat}{o:Obj}(h:i.blk b=some o):Has i L b o:=.inl h
theorem Has.block{i:Imm}{L:SH}{b:Nat}{o:Obj}{w:World}(h:Has i L b o)(hs:St i L w):w.heap[b]?=some o:=by
 rcases h with h|h
 ·exact hs.imm b o h
 ·exact hs.own (b,o) h
theorem St.put{i:Imm}{L:SH}{w w':World}{k b:Nat}{o o':Obj}(h:St i L w)(hk:L[k]?=some (b,o))(h1:w'.os=w.os)(h2:w'.tape=w.tape)(h3:w'.output=w.output)
 (hh:∀c,w'.heap[c]?=if c=b then some o' else w.heap[c]?):St i (L.set k (b,o')) w':=by
 have hkl:k<L.length:=by
  rcases Nat.lt_or_ge k L.length with h|h
  ·exact h
  ·rw[List.getElem?_eq_none h] at hk;cases hk
 have hmem:(b,o)∈L:=E9g hk
 have hmap:(L.set k (b,o')).map Prod.fst=L.map Prod.fst:=by
  rw[List.map_set];apply List.ext_getElem?;intro j;rw[List.getElem?_set];split
  ·rename_i e;subst e
   have:L[k]=(b,o):=(E9e.1 hk).2
   simp[hkl,this]
  ·rfl
 have other:∀p∈L.set k (b,o'),p=(b,o')∨(p∈L∧p.1≠b):=by
  intro p hp;obtain⟨j,hj⟩:=F0j.1 hp;rw[List.getElem?_set] at hj;split at hj
  ·first
    |exact .inl (Option.some.inj hj).symm
    |(split at hj
      ·exact .inl (Option.some.inj hj).symm
      ·cases hj)
  ·rename_i hne;refine .inr ⟨E9g hj,fun e=>hne ?_⟩;have e1:(L.map Prod.fst)[j]?=some b:=by simp[hj,e]
   have e2:(L.map Prod.fst)[k]?=some b:=by simp[hk]
   have hjl:j<(L.map Prod.fst).length:=(E9e.1 e1).1;exact((List.getElem?_inj hjl h.nodup).1 (e1.trans e2.symm)).symm
 refine⟨h1.trans h.os,h2.trans h.tape,h3.trans h.output,fun c o₁ hc=>?_,by rw[hmap];exact h.nodup,fun p hp=>?_,fun p hp=>?_⟩
 ·have hne:c≠b:=by
   rintro rfl
   have:=h.sep _ hmem
   rw[hc] at this;cases this
  rw[hh,if_neg hne];exact h.imm c o₁ hc
 ·rcases other p hp with rfl|⟨hp',hne⟩
  ·rw[hh,if_pos rfl]
  ·rw[hh,if_neg hne];exact h.own p hp'
 ·rcases other p hp with rfl|⟨hp',hne⟩
  ·exact h.sep (b,o) hmem
  ·exact h.sep p hp'
theorem St.push{i:Imm}{L:SH}{w w':World}{o:Obj}(h:St i L w)(h1:w'.os=w.os)(h2:w'.tape=w.tape)(h3:w'.output=w.output)
 (hh:w'.heap=w.heap.push o):St i ((w.heap.size,o)::L) w':=by
 have lt:∀{b:Nat}{o':Obj},w.heap[b]?=some o'→b<w.heap.size:=fun h=>(Array.getElem?_eq_some_iff.1 h).1
 refine⟨h1.trans h.os,h2.trans h.tape,h3.trans h.output,fun c o' hc=>?_,?_,fun p hp=>?_,fun p hp=>?_⟩
 ·have:=h.imm c o' hc
  rw[hh,Array.getElem?_push_lt (lt this),←this,Array.getElem?_eq_getElem (lt this)]
 ·simp only[F0w,List.nodup_cons];refine⟨fun hm=>?_,h.nodup⟩;obtain⟨p,hp,e⟩:=F1k.1 hm
  have:=lt (h.own p hp)
  omega
 ·rcases F0b.1 hp with rfl|hp
  ·rw[hh];simp
  ·have:=h.own p hp
   rw[hh,Array.getElem?_push_lt (lt this),←this,Array.getElem?_eq_getElem (lt this)]
 ·rcases F0b.1 hp with rfl|hp
  ·cases hb:i.blk w.heap.size with
   |none=>rfl
   |some o'=>have:=lt (h.imm _ _ hb);omega
  ·exact h.sep p hp
theorem A7j(w:World)(g:Nat)(cs cur:Array Value)(e:TypeId)(fz:Nat×Nat)(h:w.heap[g]?=some (.cells cur e fz)):
 ∀c,(w.setRow g cs).heap[c]?=if c=g then some (.cells cs e fz) else w.heap[c]?:=by
 intro c;simp only[World.setRow,Array.getElem?_modify];by_cases hc:c=g
 ·subst hc;simp[h]
 ·rw[if_neg (Ne.symm hc),if_neg hc]
section
variable{P:Program}{n:Nat}{f:Fr}{i:Imm}{L:SH}{dst:Option Nat}{ty:TypeId}{pos:String}{B4:Array Edge}{gd:Option (Nat×Bool)}{v:Value}{T:F7}{K:Value→Imm→SH→Prop}
def ldV(T:F7)(t off:Nat)(cs:List Value):Option Value:=
 match D6 T t with
 |some e=>bif K4 e.desc then(match A9r e.size (cs.drop off) with|some l=>some (.agg l.toArray)|none=>none) else(match cs[off]? with|some v=>sv v|none=>none)
 |none=>none
theorem P7{w:World}{b:Nat}{cs:List Value}{t:TypeId}{fz:Nat×Nat}(h:w.heap[b]?=some (.cells cs.toArray t fz))(off:Nat):w.cell? ⟨b,off,none⟩=cs[off]?:=by
 simp[World.cell?,h]
theorem B1a{w:World}{b off:Nat}{u:Value}{t:TypeId}{d:TypeDesc}(hd:P.underlying t=some d)(ha:K4 d=false)(h:w.cell? ⟨b,off,none⟩=some u):
 (Instr.loadAt t (.pointer (some ⟨b,off,none⟩))).run P w=.ok u w:=by
 simp[Instr.loadAt,Instr.sureAddr,loadVar,U5 hd,ha,h]
theorem B1b{w:World}{b off:Nat}{l:List Value}{t:TypeId}{d:TypeDesc}{ti:TypeInfo}(hd:P.underlying t=some d)(ha:K4 d=true)(hi:P.info? t=some ti)(hs:ti.size=l.length)
 (h:∀j u,l[j]?=some u→w.cell? ⟨b,off+j,none⟩=some u):(Instr.loadAt t (.pointer (some ⟨b,off,none⟩))).run P w=.ok (.agg l.toArray) w:=by
 have:=run_loadCells_list (P:=P) (w:=w) ⟨b,off,none⟩ l (fun j u hj=>by rw[E8];exact h j u hj)
 simp[Instr.loadAt,Instr.sureAddr,loadVar,U5 hd,ha,sizeOf,E0 hi,hs,this]
theorem A7q(hT:T.ok P){w:World}{b off:Nat}{cs:List Value}{t t':TypeId}{fz:Nat×Nat}(h:w.heap[b]?=some (.cells cs.toArray t' fz))(hv:ldV T t off cs=some v):
 (Instr.loadAt t (.pointer (some ⟨b,off,none⟩))).run P w=.ok v w:=by
 unfold ldV at hv;split at hv
 ·rename_i e he;obtain⟨h2,_,ti,z,hi,hs,_⟩:=B6 hT he;cases hb:K4 e.desc with
  |true=>
   simp only[hb,cond_true] at hv;split at hv
   ·rename_i l hl;cases hv;obtain⟨e1,e2⟩:=B6t _ _ _ hl;refine B1b (l:=l) h2 hb hi (by omega) fun j u hj=>?_
    rw[P7 h];rw[←e1,List.getElem?_take] at hj;split at hj
    ·simpa using hj
    ·cases hj
   ·cases hv
  |false=>
   simp only[hb,cond_false] at hv;split at hv
   ·rename_i u hu;rw[A2c] at hv;cases hv;exact B1a h2 hb (by rw[P7 h];exact hu)
   ·cases hv
 ·cases hv
theorem B0(hT:T.ok P){t t':TypeId}{x:Operand}{b off:Nat}{cs:List Value}{fz:Nat×Nat}(hx:ev n f x=.pointer (some ⟨b,off,none⟩))(hb:Has i L b (.cells cs.toArray t' fz))
 (hv:ldV T t off cs=some v):LV P n f i L ⟨dst,.load t x,ty,pos,B4,gd⟩ v:=by
 unfold LV;intro w hw
 have:=A7q hT (hb.block hw) hv
 simp[execOp,hx,this]
theorem B2(hT:T.ok P){t t':TypeId}{x:Operand}{b off:Nat}{cs:List Value}{fz:Nat×Nat}(hx:ev n f x=.pointer (some ⟨b,off,none⟩))(hb:Has i L b (.cells cs.toArray t' fz))
 (ht:R5 T (fun d=> !K4 d) t=true) (hv:cs[off]?=some v):LV P n f i L ⟨dst,.load t x,ty,pos,B4,gd⟩ v:=by
 unfold LV;intro w hw;unfold R5 at ht;split at ht
 ·rename_i e he
  have:=B1a (P:=P) (B6 hT he).und (by simpa using ht) ((P7 (hb.block hw) off).trans hv)
  simp[execOp,hx,this]
 ·cases ht
theorem D9(hT:T.ok P){t t':TypeId}{x:Operand}{b off:Nat}{cs l:List Value}{fz:Nat×Nat}(hx:ev n f x=.pointer (some ⟨b,off,none⟩))(hb:Has i L b (.cells cs.toArray t' fz))
 {e:TyE} (ht:D6 T t=some e) (ha:K4 e.desc=true) (hl:l.length=e.size) (hv:∀j u,l[j]?=some u→cs[off+j]?=some u):LV P n f i L ⟨dst,.load t x,ty,pos,B4,gd⟩ (.agg l.toArray):=by
 unfold LV;intro w hw;obtain⟨h2,_,ti,z,hi,hs,_⟩:=B6 hT ht
 have:=B1b (P:=P) (b:=b) (off:=off) (w:=w) (l:=l) h2 ha hi (by omega) (fun j u hj=>by rw[P7 (hb.block hw)];exact hv j u hj)
 simp[execOp,hx,this]
theorem A7b:∀(vs cs:List Value)(off:Nat)(cs':List Value),U9 cs off vs=some cs'→cs'=cs.take off++vs++cs.drop (off+vs.length)∧off+vs.length≤max off cs.length
 |[],cs,off,cs',h=>by cases h;simp;omega
 |v::vs,cs,off,cs',h=>by
  simp only[U9] at h;split at h
  ·rename_i c1 h1;obtain⟨e1,e2⟩:=B0a _ _ _ _ h1;obtain⟨e3,e4⟩:=A7b vs c1 (off+1) cs' h;subst e1;simp only[List.length_set] at e4;refine⟨?_,by simp only[F1h];omega⟩;rw[e3]
   have a1:(cs.set off v).take (off+1)=cs.take off++[v]:=by
    rw[List.take_add_one];simp[e2,List.take_set_of_le]
   have a2:(cs.set off v).drop (off+1+vs.length)=cs.drop (off+(v::vs).length):=by
    rw[List.drop_set_of_lt (by omega)];congr 1;simp;omega
   rw[a1,a2];simp
  ·cases h
def R8(T:F7)(t:Nat)(vs:List Value):Bool:=
 match D6 T t with
 |some e=>E9p vs.length e.size&&vs.all (·.oneCell')
 |none=>false
theorem C9y(hT:T.ok P){w:World}{b off:Nat}{cs cs' vs:List Value}{t t':TypeId}(h:w.heap[b]?=some (.cells cs.toArray t' (0,0))){u:Value}(hc:M5 u=some vs)(hok:R8 T t vs=true)(hvs:vs≠[])
 (hp:U9 cs off vs=some cs'):(Instr.storeAt t (.pointer (some ⟨b,off,none⟩)) u).run P w=.ok () (w.setRow b cs'.toArray):=by
 unfold R8 at hok;split at hok
 ·rename_i e he;obtain⟨h2,_,ti,z,hi,hs,_⟩:=B6 hT he;simp only[E9j] at hok;have hlen:vs.length=e.size:=E9m hok.1;obtain⟨e1,e2⟩:=A7b _ _ _ _ hp
  have hle:off+vs.length≤cs.length:=by
   have:0<vs.length:=List.length_pos_iff.2 hvs
   omega
  have hr:=run_storeCells_at P b off t' vs 0 cs.toArray w h (by simpa using hle) (by simpa using hok.2);simp only[Nat.add_zero] at hr;simp[Instr.storeAt,Instr.sureAddr,storeVar,A4f hc,sizeOf,E0 hi,hs,hlen,hr,e1]
 ·cases hok
theorem J0(hT:T.ok P){t t':TypeId}{x y:Operand}{b off k:Nat}{cs cs' vs:List Value}{u:Value}{L':SH}(hx:ev n f x=.pointer (some ⟨b,off,none⟩))(hy:ev n f y=u)(hc:M5 u=some vs)
 (hk:L[k]?=some (b,.cells cs.toArray t' (0,0))) (hok:R8 T t vs=true) (hp:U9 cs off vs=some cs') (hL:B9u L k (b,.cells cs'.toArray t' (0,0))=some L') (h:K undef i L'):
 P3 P n ⟨dst,.store t x y,ty,pos,B4,gd⟩ f i L K:=by
 refine A8g fun w hw=>?_
 have hb:=hw.own _ (E9g hk);by_cases hvs:vs=[]
 ·subst hvs;cases hp;refine⟨w,i,L,?_,Imm.le.refl i,hw,?_⟩
  ·unfold R8 at hok;split at hok
   ·rename_i e he;obtain⟨h2,_,ti,z,hi,hs,_⟩:=B6 hT he;simp only[E9j] at hok;have hlen:([]:List Value).length=e.size:=E9m hok.1;simp[execOp,hx,hy,Instr.storeAt,Instr.sureAddr,storeVar,A4f hc,sizeOf,E0 hi,hs,←hlen,storeCells]
   ·cases hok
  ·have e:=(B0a _ _ _ _ hL).1
   have e2:L.set k (b,.cells cs.toArray t' (0,0))=L:=by
    obtain⟨hkl,hkv⟩:=E9e.1 hk;rw[←hkv];exact List.set_getElem_self hkl
   rw[e2] at e;rw[e];exact h
 ·have hr:=C9y hT hb hc hok hvs hp;refine⟨_,i,L',by simp[execOp,hx,hy,hr];rfl,Imm.le.refl i,?_,h⟩;rw[←(B0a _ _ _ _ hL).1];exact hw.put hk rfl rfl rfl (A7j w b _ _ _ _ hb)
def D4w(T:F7)(t:Nat):Option (List Value):=
 match D6 T t with
 |some e=>some e.zero
 |none=>none
theorem A2a(hT:T.ok P){t:Nat}{zs:List Value}(hz:D4w T t=some zs)(h:∀b,K (.pointer (some ⟨b,0,none⟩)) i ((b,.cells zs.toArray t (0,0))::L)):
 P3 P n ⟨dst,.alloc t,ty,pos,B4,gd⟩ f i L K:=by
 refine F5 fun w hw=>?_
 unfold D4w at hz;split at hz
 ·rename_i e he;cases hz;obtain⟨h2,_,ti,z,hi,hs,hby,hzz,hzc⟩:=B6 hT he;refine⟨.pointer (some ⟨w.heap.size,0,none⟩),{w with heap:=w.heap.push (.cells e.zero.toArray t (0,0))},i,_,?_,Imm.le.refl i,hw.push rfl rfl rfl rfl,h _⟩;simp[execOp,Instr.alloc,zeroValue,E0 hi,hzz,newVar,newRow,hzc]
 ·cases hz
theorem D7r{t:Nat}{x:Operand}{vs:List Value}(hx:M5 (ev n f x)=some vs)(h:∀b,K (.pointer (some ⟨b,0,none⟩)) i ((b,.cells vs.toArray t (0,0))::L)):
 P3 P n ⟨dst,.box t x,ty,pos,B4,gd⟩ f i L K:=by
 refine F5 fun w hw=>?_
 refine⟨.pointer (some ⟨w.heap.size,0,none⟩),{w with heap:=w.heap.push (.cells vs.toArray t (0,0))},i,_,?_,Imm.le.refl i,hw.push rfl rfl rfl rfl,h _⟩;simp[execOp,Instr.box,newVar,newRow,A4f hx]
def Z2(P:Program)(g:FuncId):Bool:=
 match P.funcs[g]? with
 |some fn=> !(fn.name== "runtime.NumGoroutine")&&fn.body.isSome
 |none=>false
theorem U6{g:FuncId}(h:Z2 P g=true)(args:Array Value)(w:World):(callFunc g args).run P w=.ok (.enter g args) w:=by
 unfold Z2 at h;split at h
 ·rename_i fn hfn;simp only[E9j,Bool.not_eq_true'] at h;have h1:¬fn.name= "runtime.NumGoroutine" :=by simpa using h.1
  have h2:¬fn.body=none:=by intro hb;rw[hb] at h;exact absurd h.2 (by simp)
  simp[callFunc,hfn,h1,h2]
 ·cases h
theorem D2{g:FuncId}{as:Array Operand}{ts:Array TypeId}{vs:List Value}{G3:Value→Imm→SH→Prop}(hg:Z2 P g=true)(ha:as.toList.map (ev n f)=vs)(h:E6 P g vs i L G3)
 (k:∀v i' L',i.le i'→G3 v i' L'→K v i' L'):P3 P n ⟨dst,.call ⟨.value (.func g),as,ts⟩,ty,pos,B4,gd⟩ f i L K:=by
 refine C1x (g:=g) (args:=vs) (fun w=>?_) (h.mono k)
 have:as.map (ev n f)=vs.toArray:=by rw[←ha];exact F1w (by simp)
 simp[execOp,resolve,this,ev,Deferred.ofValue,invoke,U6 hg]
theorem C1y{g:FuncId}{x:Operand}{fst cap:Array Value}{as:Array Operand}{ts:Array TypeId}{vs:List Value}{G3:Value→Imm→SH→Prop}(hx:ev n f x=.func (.func g) fst cap)(hg:Z2 P g=true)
 (ha:fst.toList++as.toList.map (ev n f)++cap.toList=vs) (h:E6 P g vs i L G3)
 (k:∀v i' L',i.le i'→G3 v i' L'→K v i' L'):P3 P n ⟨dst,.call ⟨.value x,as,ts⟩,ty,pos,B4,gd⟩ f i L K:=by
 refine C1x (g:=g) (args:=vs) (fun w=>?_) (h.mono k)
 have:fst++(as.map (ev n f)++cap)=vs.toArray:=by rw[←ha];exact F1w (by simp)
 simp[execOp,resolve,hx,Deferred.ofValue,invoke,U6 hg,this]
end
section
variable{P:Program}{all:List Oper}{n:Nat}{r:List Oper}{f:Fr}{i:Imm}{L:SH}{K:Fr→Imm→SH→Prop}{dst:Option Nat}{ty:TypeId}{pos:String}{B4:Array Edge}{gd:Option (Nat×Bool)}{T:F7}{v:Value}
theorem B7z(hT:T.ok P){t t':TypeId}{x y:Operand}{b off k:Nat}{cs cs' vs:List Value}{u:Value}{L':SH}(hg:P9 n f all ⟨dst,.store t x y,ty,pos,B4,gd⟩=true)(hx:ev n f x=.pointer (some ⟨b,off,none⟩))(hy:ev n f y=u)(hc:M5 u=some vs)
 (hk:L[k]?=some (b,.cells cs.toArray t' (0,0))) (hok:R8 T t vs=true) (hp:U9 cs off vs=some cs') (hL:B9u L k (b,.cells cs'.toArray t' (0,0))=some L') (h:RS P all n r (F3 f dst undef) i L' K):
 RS P all n (⟨dst,.store t x y,ty,pos,B4,gd⟩::r) f i L K:=
 K5 hg (J0 hT hx hy hc hk hok hp hL h)
theorem C1(hT:T.ok P){t:Nat}{zs:List Value}(hg:P9 n f all ⟨dst,.alloc t,ty,pos,B4,gd⟩=true)(hz:D4w T t=some zs)
 (h:∀b,RS P all n r (F3 f dst (.pointer (some ⟨b,0,none⟩))) i ((b,.cells zs.toArray t (0,0))::L) K):RS P all n (⟨dst,.alloc t,ty,pos,B4,gd⟩::r) f i L K:=
 K5 hg (A2a hT hz h)
theorem E4{t:Nat}{x:Operand}{vs:List Value}(hg:P9 n f all ⟨dst,.box t x,ty,pos,B4,gd⟩=true)(hx:M5 (ev n f x)=some vs)
 (h:∀b,RS P all n r (F3 f dst (.pointer (some ⟨b,0,none⟩))) i ((b,.cells vs.toArray t (0,0))::L) K):RS P all n (⟨dst,.box t x,ty,pos,B4,gd⟩::r) f i L K:=
 K5 hg (D7r hx h)
theorem A7{g:FuncId}{as:Array Operand}{ts:Array TypeId}{vs:List Value}{G3:Value→Imm→SH→Prop}(h:E6 P g vs i L G3)(hg:P9 n f all ⟨dst,.call ⟨.value (.func g),as,ts⟩,ty,pos,B4,gd⟩=true)(hf:Z2 P g=true)
 (ha:as.toList.map (ev n f)=vs) (k:∀v i' L',i.le i'→G3 v i' L'→RS P all n r (F3 f dst v) i' L' K):RS P all n (⟨dst,.call ⟨.value (.func g),as,ts⟩,ty,pos,B4,gd⟩::r) f i L K:=
 K5 hg (D2 hf ha h k)
theorem T6{g:FuncId}{x:Operand}{fst cap:Array Value}{as:Array Operand}{ts:Array TypeId}{vs:List Value}{G3:Value→Imm→SH→Prop}(h:E6 P g vs i L G3)(hg:P9 n f all ⟨dst,.call ⟨.value x,as,ts⟩,ty,pos,B4,gd⟩=true)
 (hx:ev n f x=.func (.func g) fst cap) (hf:Z2 P g=true) (ha:fst.toList++as.toList.map (ev n f)++cap.toList=vs) (k:∀v i' L',i.le i'→G3 v i' L'→RS P all n r (F3 f dst v) i' L' K):
 RS P all n (⟨dst,.call ⟨.value x,as,ts⟩,ty,pos,B4,gd⟩::r) f i L K:=
 K5 hg (C1y hx hf ha h k)
theorem J3{L':SH}(hp:L.Perm L')(h:RS P all n r f i L' K):RS P all n r f i L K:=
 A2g fun _ hw=>⟨i,L',Imm.le.refl i,hw.perm hp,h⟩
theorem M3{b:Nat}{o:Obj}(h:∀i',i.le i'→i'.blk b=some o→RS P all n r f i' L K):RS P all n r f i ((b,o)::L) K:=
 A2g fun _ hw=>⟨i.add b o,L,hw.freeze.1,hw.freeze.2,h _ hw.freeze.1 (by simp[Imm.add])⟩
end
section
variable{P:Program}{n:Nat}{c:Code}{f:Fr}{i:Imm}{L:SH}{Q:Ex→Fr→Imm→SH→Prop}
theorem A1r{L':SH}(hp:L.Perm L')(h:CS P n c f i L' Q):CS P n c f i L Q:=
 A4b fun _ hw=>⟨i,L',Imm.le.refl i,hw.perm hp,h⟩
theorem A2b{b:Nat}{o:Obj}(h:∀i',i.le i'→i'.blk b=some o→CS P n c f i' L Q):CS P n c f i ((b,o)::L) Q:=
 A4b fun _ hw=>⟨i.add b o,L,hw.freeze.1,hw.freeze.2,h _ hw.freeze.1 (by simp[Imm.add])⟩
end
theorem E6.state{P:Program}{g:FuncId}{args:List Value}{i:Imm}{L:SH}{K K':Value→Imm→SH→Prop}(h:E6 P g args i L K)
 (hk:∀v i' L' w,i.le i'→St i' L' w→K v i' L'→∃i'' L'',i'.le i''∧St i'' L'' w∧K' v i'' L''):E6 P g args i L K':=
 fun w hw=>(h w hw).mono fun _ w' ⟨v,i',L',he,hi,hs,k⟩=>let⟨i'',L'',hi',hs',k'⟩:=hk v i' L' w' hi hs k;⟨v,i'',L'',he,hi.trans hi',hs',k'⟩
theorem E6.frame{P:Program}{g:FuncId}{args:List Value}{i:Imm}{L L0:SH}{K:Value→Imm→SH→Prop}(hp:L.Perm L0)(h:E6 P g args i L0 K):E6 P g args i L K:=
 fun w hw=>h w (hw.perm hp)
end Go.Eng
namespace Go.Eng
open Go
section
variable{P:Program}{all:List Oper}{n:Nat}{r:List Oper}{f:Fr}{i:Imm}{L:SH}{K:Fr→Imm→SH→Prop}{dst:Option Nat}{ty:TypeId}{pos:String}{B4:Array Edge}{gd:Option (Nat×Bool)}
 {t t2:Nat} {x y:Operand} {a b:Int} {k:IntKind} {p q:ByteArray}
theorem I1(hx:ev n f x=.int k a)(hy:ev n f y=.int k b)(hg:P9 n f all ⟨dst,.binOp .lss t x y t2,ty,pos,B4,gd⟩=true)
 (hT:a<b→RS P all n r (F3 f dst (.bool true)) i L K) (hF:b≤a→RS P all n r (F3 f dst (.bool false)) i L K):RS P all n (⟨dst,.binOp .lss t x y t2,ty,pos,B4,gd⟩::r) f i L K:=by
 by_cases h:a<b
 ·exact A6 (Y5 hx hy h) hg (hT h)
 ·exact A6 (A0j hx hy (by omega)) hg (hF (by omega))
theorem O5(hx:ev n f x=.int k a)(hy:ev n f y=.int k b)(hg:P9 n f all ⟨dst,.binOp .leq t x y t2,ty,pos,B4,gd⟩=true)
 (hT:a≤b→RS P all n r (F3 f dst (.bool true)) i L K) (hF:b<a→RS P all n r (F3 f dst (.bool false)) i L K):RS P all n (⟨dst,.binOp .leq t x y t2,ty,pos,B4,gd⟩::r) f i L K:=by
 by_cases h:a≤b
 ·exact A6 (A2y hx hy h) hg (hT h)
 ·exact A6 (A2z hx hy (by omega)) hg (hF (by omega))
theorem H0(hx:ev n f x=.int k a)(hy:ev n f y=.int k b)(hg:P9 n f all ⟨dst,.binOp .gtr t x y t2,ty,pos,B4,gd⟩=true)
 (hT:b<a→RS P all n r (F3 f dst (.bool true)) i L K) (hF:a≤b→RS P all n r (F3 f dst (.bool false)) i L K):RS P all n (⟨dst,.binOp .gtr t x y t2,ty,pos,B4,gd⟩::r) f i L K:=by
 by_cases h:b<a
 ·exact A6 (J4 hx hy h) hg (hT h)
 ·exact A6 (I0 hx hy (by omega)) hg (hF (by omega))
theorem Y8(hx:ev n f x=.int k a)(hy:ev n f y=.int k b)(hg:P9 n f all ⟨dst,.binOp .geq t x y t2,ty,pos,B4,gd⟩=true)
 (hT:b≤a→RS P all n r (F3 f dst (.bool true)) i L K) (hF:a<b→RS P all n r (F3 f dst (.bool false)) i L K):RS P all n (⟨dst,.binOp .geq t x y t2,ty,pos,B4,gd⟩::r) f i L K:=by
 by_cases h:b≤a
 ·exact A6 (A3a hx hy h) hg (hT h)
 ·exact A6 (A1p hx hy (by omega)) hg (hF (by omega))
theorem E1(hx:ev n f x=.int k a)(hy:ev n f y=.int k b)(hg:P9 n f all ⟨dst,.binOp .eql t x y t2,ty,pos,B4,gd⟩=true)
 (hT:a=b→RS P all n r (F3 f dst (.bool true)) i L K) (hF:a≠b→RS P all n r (F3 f dst (.bool false)) i L K):RS P all n (⟨dst,.binOp .eql t x y t2,ty,pos,B4,gd⟩::r) f i L K:=by
 by_cases h:a=b
 ·exact A6 (G9 hx hy h) hg (hT h)
 ·exact A6 (H5 hx hy h) hg (hF h)
theorem J1(hx:ev n f x=.int k a)(hy:ev n f y=.int k b)(hg:P9 n f all ⟨dst,.binOp .neq t x y t2,ty,pos,B4,gd⟩=true)
 (hT:a≠b→RS P all n r (F3 f dst (.bool true)) i L K) (hF:a=b→RS P all n r (F3 f dst (.bool false)) i L K):RS P all n (⟨dst,.binOp .neq t x y t2,ty,pos,B4,gd⟩::r) f i L K:=by
 by_cases h:a=b
 ·exact A6 (T3 hx hy h) hg (hF h)
 ·exact A6 (T1 hx hy h) hg (hT h)
theorem I9(hx:ev n f x=.string p)(hy:ev n f y=.string q)(hg:P9 n f all ⟨dst,.binOp .eql t x y t2,ty,pos,B4,gd⟩=true)
 (hT:p.toList=q.toList→RS P all n r (F3 f dst (.bool true)) i L K) (hF:p.toList≠q.toList→RS P all n r (F3 f dst (.bool false)) i L K):RS P all n (⟨dst,.binOp .eql t x y t2,ty,pos,B4,gd⟩::r) f i L K:=by
 by_cases h:p.toList=q.toList
 ·exact A6 (B0x hx hy h) hg (hT h)
 ·exact A6 (B0y hx hy h) hg (hF h)
theorem R4(hx:ev n f x=.string p)(hy:ev n f y=.string q)(hg:P9 n f all ⟨dst,.binOp .neq t x y t2,ty,pos,B4,gd⟩=true)
 (hT:p.toList≠q.toList→RS P all n r (F3 f dst (.bool true)) i L K) (hF:p.toList=q.toList→RS P all n r (F3 f dst (.bool false)) i L K):RS P all n (⟨dst,.binOp .neq t x y t2,ty,pos,B4,gd⟩::r) f i L K:=by
 by_cases h:p.toList=q.toList
 ·exact A6 (B8e hx hy h) hg (hF h)
 ·exact A6 (B8d hx hy h) hg (hT h)
end
abbrev Kap:=Nat→Imm→Value→Prop
def A8w(κ:Kap):Option Nat→(Imm→Value→Prop)→Kap
 |some d,K=>fun t=>if t=d then K else κ t
 |none,_=>κ
def A4q(K:Imm→Value→Prop):Prop:=∀i i',Imm.le i i'→∀v,K i v→K i' v
def X1(all:List Oper)(j i:Nat):Bool:=
 match all[j]? with
 |some o=>o.after.toList.any fun e=>Region.binds .any e&&E9p e.on i
 |none=>false
def M7(all:List Oper)(j t:Nat):Bool:=
 match all[j]? with
 |some o=>(match o.dst with|some d=>E9p d t|none=>false)
 |none=>false
def okOp(all:List Oper)(k:Nat)(before later:List Nat)(t1:Option Nat):Bool:=
 match all[k]? with
 |some o=>
  ((o.looksAt all.toArray).all fun t=>(List.range all.length).all fun j=> !M7 all j t||(before.contains j&&X1 all k j)|| !(before.contains j||later.contains j))&&
  (match o.dst with
   |some d=> !((o.looksAt all.toArray).contains d)&&(later.all fun j=> !M7 all j d)
   |none=>true)&&
  (o.after.toList.all fun e=> !Region.binds .any e||before.contains e.on)&&
  !before.contains k&&
  (match t1 with
   |some t=>X1 all t k||later.any (fun j=>X1 all j k)
   |none=>true)
 |none=>false
def A5a(all:List Oper):List Nat→Bool
 |a::b::l=>X1 all b a&&A5a all (b::l)
 |_=>true
def okCover(all:List Oper)(head tail:List Nat):Bool:=(List.range all.length).all fun k=>(head.contains k&& !tail.contains k)||(!head.contains k&&tail.contains k)
def D1t(ops:Array Oper):List Nat→Array Bool→Bool
 |[],listed=>(Region.ready .any ops listed).isEmpty
 |t::ts,listed=>decide (Region.ready .any ops listed=[t])&&D1t ops ts (listed.setIfInBounds t true)
def W1(all:List Oper)(head:List Nat):Array Bool:=(Array.range all.length).map fun k=>head.contains k
section
variable{P:Program}{all:List Oper}{n:Nat}{i0:Imm}{Ls:List SH}{lc:List Nat}
theorem A5e{j i:Nat}(h:X1 all j i=true):∃o,all[j]?=some o∧∃e∈o.after,Region.binds .any e=true∧e.on=i:=by
 unfold X1 at h;split at h
 ·rename_i o ho;obtain⟨e,he,hb⟩:=List.any_eq_true.1 h;simp only[E9j] at hb;exact⟨o,ho,e,by simpa using he,hb.1,E9m hb.2⟩
 ·cases h
theorem A4a{j t:Nat}{o:Oper}(ho:all[j]?=some o)(hd:o.dst=some t):M7 all j t=true:=by
 simp[M7,ho,hd]
theorem A0m{F:Fence}{ops:Array Oper}{Q:Exit→Act→World→Prop}:∀(ts:List Nat)(listed:Array Bool)(os:List Oper)(a:Act)(w:World),ts.map (ops[·]?)=os.map some→
 D1t ops ts listed=true→wpR F P ops Q os a w→wpAnyIn F 0 P .any ops Q ts.length listed a w
 |[],listed,os,a,w,ho,hs,h=>by
  cases os with
  |nil=>
   have h0:Region.ready .any ops listed=[]:=by simpa [D1t] using hs
   exact And.intro h0 h
  |cons _ _=>cases ho
 |t::ts,listed,os,a,w,ho,hs,h=>by
  cases os with
  |nil=>cases ho
  |cons o os=>
   simp only[F0w,List.cons.injEq] at ho;simp only[D1t,E9j,decide_eq_true_eq] at hs;refine⟨fun h0=>(by rw[hs.1] at h0;cases h0),fun j hj=>?_⟩;rw[hs.1] at hj
   have:j=t:=by simpa using hj
   subst this;unfold wpOpIn;simp only[ho.1];simp only[wpR] at h;split at h
   ·rename_i hw;rw[if_pos hw];exact Oper.wpIn_mono (fun a w=>A0m ts _ os a w ho.2 hs.2) h
   ·rename_i hw;rw[if_neg hw];exact⟨h.1,A0m ts _ os _ w ho.2 hs.2 h.2⟩
theorem A3r:∀(l:List Nat),A5a all l=true→∀(q a b:Nat),l[q]?=some a→l[q+1]?=some b→X1 all b a=true
 |[],_,q,a,b,h,_=>by cases h
 |[x],_,q,a,b,h,h'=>by cases q<;>cases h'
 |x::y::l,hc,q,a,b,h,h'=>by
  simp only[A5a,E9j] at hc;cases q with
  |zero=>cases h;cases h';exact hc.1
  |succ q=>exact A3r (y::l) hc.2 q a b (by simpa using h) (by simpa using h')
end
def V2:List (Nat×(Imm→Value→Prop))→Nat→Option (Imm→Value→Prop)
 |[],_=>none
 |(s,K)::F,t=>bif E9p t s then some K else V2 F t
def kap(f:Fr)(F:List (Nat×(Imm→Value→Prop))):Kap:=fun t i v=>
 match V2 F t with
 |some K=>K i v
 |none=>v=f t
def kq:List (Nat×(Imm→Value→Prop))→Fr→Imm→(Fr→Prop)→Prop
 |[],f,_,R=>R f
 |(t,K)::F,f,i,R=>∀v,K i v→kq F (upd f t v) i R
def B6g:List (Nat×(Imm→Value→Prop))→Bool
 |[]=>true
 |(t,_)::F=>(V2 F t).isNone&&B6g F
theorem E3y:∀(F:List (Nat×(Imm→Value→Prop)))(f g:Fr)(i:Imm)(R:Fr→Prop),B6g F=true→kq F f i R→(∀t,kap f F t i (g t))→R g
 |[],f,g,i,R,_,h,hg=>by
  have:g=f:=funext fun t=>hg t
  rw[this];exact h
 |(t,K)::F,f,g,i,R,hn,h,hg=>by
  simp only[B6g,E9j] at hn;have ht:=hg t;have hb:E9p t t=true:=Nat.beq_refl t;simp only[kap,V2,hb,cond_true] at ht;refine E3y F (upd f t (g t)) g i R hn.2 (h (g t) ht) fun s=>?_
  have hs:=hg s;simp only[kap,V2] at hs⊢;by_cases e:s=t
  ·subst e;cases hl:V2 F s with
   |none=>simp[K2]
   |some K'=>rw[hl] at hn;exact absurd hn.1 (by simp)
  ·have hb2:E9p s t=false:=by
    cases hx:E9p s t with
    |true=>exact absurd (E9m hx) e
    |false=>rfl
   simp only[hb2,cond_false] at hs;cases hl:V2 F s with
   |none=>rw[hl] at hs;simp only at hs⊢;rw[M8 _ _ e];exact hs
   |some K'=>rw[hl] at hs;exact hs
section
variable{P:Program}{all:List Oper}{n:Nat}{i0:Imm}{Ls:List SH}{lc:List Nat}{Kont:Kap→Prop}{f:Fr}{F:List (Nat×(Imm→Value→Prop))}{r:List Nat}{k:Nat}
theorem E5v(hF:∀p∈F,A4q p.2)(t:Nat):A4q (kap f F t):=by
 intro i i' hi v hv;unfold kap at*
 have:∀(F:List (Nat×(Imm→Value→Prop))) K,(∀p∈F,A4q p.2)→V2 F t=some K→A4q K:=by
  intro F;induction F with
  |nil=>intro K _ h;cases h
  |cons p F ih=>
   intro K h1 h2;obtain⟨s,K'⟩:=p;simp only[V2] at h2;cases hx:E9p t s with
   |true=>rw[hx] at h2;cases h2;exact h1 (s,K) (F0g ..)
   |false=>rw[hx] at h2;exact ih K (fun p hp=>h1 p (E9u _ hp)) h2
 split at hv
 ·rename_i K hK;exact this F K hF hK i i' hi v hv
 ·exact hv
def A5x(o:Oper):Bool:=match o.op with| .select _ _=>false|_=>true
theorem A2m{o:Oper}(h:A5x o=true):∀cs b,o.op≠ .select cs b:=by
 intro cs b e;unfold A5x at h;rw[e] at h;cases h
theorem E5q{all:List Oper}{o:Oper}{t:Nat}(h:.tmp t∈o.op.operands):t∈o.looksAt all.toArray:=by
 unfold Oper.looksAt;refine F1p _ (List.mem_filterMap.2 ⟨.tmp t,by simpa using h,rfl⟩)
theorem A7d{all:List Oper}{o:Oper}{f g:Fr}(h:∀t∈o.looksAt all.toArray,f t=g t):∀x∈o.op.operands,ev n f x=ev n g x:=by
 intro x hx;cases x with
 |tmp t=>simp only[ev];rw[h t (E5q hx)]
 |_=>rfl
theorem A1w{all:List Oper}{o:Oper}{f g:Fr}(h:∀t∈o.looksAt all.toArray,f t=g t):P9 n f all o=P9 n g all o:=by
 unfold P9 gv;unfold Oper.looksAt at h;cases hg:o.guard with
 |none=>rfl
 |some p=>
  obtain⟨j,want⟩:=p;simp only[hg] at h;cases hd:(all[j]?).bind (·.dst) with
  |none=>simp only[hd]
  |some d=>
   have:f d=g d:=h d (List.mem_append_right _ (by simp[hd]))
   simp only[hd,this]
theorem B6p{d:Option Nat}{v:Value}(hd:(match d with|some d=>(V2 F d).isNone|none=>true)=true):A8w (kap f F) d (fun _ u=>u=v)=kap (F3 f d v) F:=by
 cases d with
 |none=>rfl
 |some d=>
  funext t;simp only[A8w,F3];by_cases e:t=d
  ·subst e;simp only[if_true];funext i u;simp only[kap];cases hl:V2 F t with
   |none=>simp[K2]
   |some K=>simp only[hl] at hd;cases hd
  ·rw[if_neg e];funext i u;simp only[kap];cases hl:V2 F t with
   |none=>simp only;rw[M8 _ _ e]
   |some K=>rfl
theorem C0r{d:Nat}{K:Imm→Value→Prop}:A8w (kap f F) (some d) K=kap f ((d,K)::F):=by
 funext t;simp only[A8w];by_cases e:t=d
 ·subst e;funext i u;simp[kap,V2]
 ·rw[if_neg e]
  have hb:E9p t d=false:=by
   cases hx:E9p t d with
   |true=>exact absurd (E9m hx) e
   |false=>rfl
  funext i u;simp[kap,V2,hb]
def A4w(F:List (Nat×(Imm→Value→Prop)))(l:List Nat):Bool:=l.all fun t=>(V2 F t).isNone
theorem D6j{l:List Nat}{g:Fr}{i':Imm}(hfr:A4w F l=true)(hg:∀t∈l,kap f F t i' (g t)):∀t∈l,f t=g t:=by
 intro t ht;have h1:=F0c.1 hfr t ht;have h2:=hg t ht;unfold kap at h2;cases hl:V2 F t with
 |none=>rw[hl] at h2;exact h2.symm
 |some K=>rw[hl] at h1;cases h1
def A7u(F:List (Nat×(Imm→Value→Prop)))(d:Option Nat):Bool:=match d with|some d=>(V2 F d).isNone|none=>true
def kqs(F:List (Nat×(Imm→Value→Prop))):List Nat→Fr→Imm→(Fr→Prop)→Prop
 |[],f,_,R=>R f
 |t::ts,f,i,R=>match V2 F t with
  |some K=>∀v,K i v→kqs F ts (upd f t v) i R
  |none=>kqs F ts f i R
theorem C3u:∀(ts:List Nat)(f0 g:Fr)(i:Imm)(R:Fr→Prop),kqs F ts f0 i R→(∀t∈ts,kap f F t i (g t))→∃f1:Fr,R f1∧(∀t,(t∈ts∧(V2 F t).isSome=true→f1 t=g t)∧(t∉ts∨(V2 F t).isNone=true→f1 t=f0 t))
 |[],f0,g,i,R,h,_=>⟨f0,h,fun t=>⟨fun h=>(by cases h.1),fun _=>rfl⟩⟩
 |t::ts,f0,g,i,R,h,hg=>by
  simp only[kqs] at h;split at h
  ·rename_i K hK;have ht:=hg t (F0g ..);unfold kap at ht;rw[hK] at ht;obtain⟨f1,h1,h2⟩:=C3u ts (upd f0 t (g t)) g i R (h (g t) ht) fun s hs=>hg s (E9u _ hs)
   refine⟨f1,h1,fun s=>⟨fun⟨hs,hl⟩=>?_,fun hs=>?_⟩⟩
   ·by_cases hin:s∈ts
    ·exact(h2 s).1 ⟨hin,hl⟩
    ·rcases F0b.1 hs with rfl|hs
     ·rw[(h2 s).2 (.inl hin),K2]
     ·exact absurd hs hin
   ·have hne:s≠t:=by
     rintro rfl;rcases hs with hs|hs
     ·exact hs (F0g ..)
     ·rw[hK] at hs;cases hs
    rw[(h2 s).2 (hs.imp (fun h h'=>h (E9u _ h')) id),M8 _ _ hne]
  ·rename_i hK;obtain⟨f1,h1,h2⟩:=C3u ts f0 g i R h fun s hs=>hg s (E9u _ hs)
   refine⟨f1,h1,fun s=>⟨fun⟨hs,hl⟩=>?_,fun hs=>?_⟩⟩
   ·rcases F0b.1 hs with rfl|hs
    ·rw[hK] at hl;cases hl
    ·exact(h2 s).1 ⟨hs,hl⟩
   ·exact(h2 s).2 (hs.imp (fun h h'=>h (E9u _ h')) id)
theorem C2u{l:List Nat}{g:Fr}{i':Imm}{R:Fr→Prop}(h:kqs F l f i' R)(hg:∀t∈l,kap f F t i' (g t)):∃f1,R f1∧∀t∈l,f1 t=g t:=by
 obtain⟨f1,h1,h2⟩:=C3u l f g i' R h hg;refine⟨f1,h1,fun t ht=>?_⟩;cases hl:V2 F t with
 |some K=>exact(h2 t).1 ⟨ht,by rw[hl];rfl⟩
 |none=>
  rw[(h2 t).2 (.inr (by rw[hl];rfl))]
  have:=hg t ht
  unfold kap at this;rw[hl] at this;exact this.symm
end
end Go.Eng
namespace Go.Eng
open Go
section
variable{P:Program}{all:List Oper}{n:Nat}{i0:Imm}{Ls:List SH}{lc:List Nat}{Kont:Kap→Prop}{f:Fr}{F:List (Nat×(Imm→Value→Prop))}{r:List Nat}{k:Nat}{dst:Option Nat}{ty:TypeId}{pos:String}{B4:Array Edge}{gd:Option (Nat×Bool)}
 {t t2:Nat} {x y:Operand} {a b:Int} {kd:IntKind} {p q:ByteArray}
end
end Go.Eng
namespace Go.Eng
open Go
def A6x(all:List Oper):List Nat→Option (List Oper)
 |[]=>some []
 |t::ts=>match all[t]? with
  |some o=>(match A6x all ts with|some r=>some (o::r)|none=>none)
  |none=>none
theorem B3v{all:List Oper}:∀(ts:List Nat)(r:List Oper),A6x all ts=some r→ts.map (all.toArray[·]?)=r.map some
 |[],r,h=>by cases h;rfl
 |t::ts,r,h=>by
  simp only[A6x] at h;split at h
  ·rename_i o ho;split at h
   ·rename_i r' hr;cases h;simp[ho];simpa using B3v ts r' hr
   ·cases h
  ·cases h
section
variable{P:Program}{all:List Oper}{n:Nat}{f:Fr}
end
theorem U2{α:Type}:∀(l:List α)(k:Nat)(v x:α),l[k]?=some x→B9u l k v=some (l.set k v)
 |[],k,v,x,h=>by cases h
 |_::l,0,v,x,h=>rfl
 |a::l,k+1,v,x,h=>by
  simp only[B9u,U2 l k v x (by simpa using h),List.set_cons_succ]
theorem G8{P:Program}{α β:Type}(x:Sem α)(f:α→Sem β)(w w':World)(a:α)(h:x.run P w=.ok a w'):(x >>= f).run P w=(f a).run P w':=by
 simp[h]
theorem A8t{P:Program}{α β:Type}(g:α→Sem β)(h:α→β):∀(l:List α),(∀a∈l,∀w,(g a).run P w=.ok (h a) w)→∀w,(l.mapM g).run P w=.ok (l.map h) w
 |[],_,w=>by simp
 |a::l,hg,w=>by
  have h1:=hg a (F0g ..) w;have h2:=A8t g h l (fun b hb=>hg b (E9u _ hb)) w;simp[List.mapM_cons,h1,h2]
theorem E5b{P:Program}{α β:Type}(g:α→Sem β)(h:α→β)(l:Array α)(hg:∀a∈l,∀w,(g a).run P w=.ok (h a) w)(w:World):(l.mapM g).run P w=.ok (l.map h) w:=by
 rw[Array.mapM_eq_mapM_toList]
 have:=A8t (P:=P) g h l.toList (fun a ha=>hg a (by simpa using ha)) w
 simp[this];exact F1w (by simp)
def Y3(n:Nat)(f:Fr):List (Nat×Operand)→Option (List (Nat×List Value))
 |[]=>some []
 |(i,x)::l=>match M5 (ev n f x) with
  |some vs=>(match Y3 n f l with|some r=>some ((i,vs)::r)|none=>none)
  |none=>none
def bld(T:F7)(n:Nat)(f:Fr)(t:Nat)(parts:List (Nat×Operand)):Option (List Value):=
 match D6 T t with
 |some ⟨.struct fs,_,_,zero⟩=>bif fs.toList.all (fun fd=>(D6 T fd.type).isSome) then(match Y3 n f parts with|some ps=>A6y fs T zero ps|none=>none) else none
 |_=>none
section
variable{P:Program}{n:Nat}{f:Fr}{i:Imm}{L:SH}{dst:Option Nat}{ty:TypeId}{pos:String}{B4:Array Edge}{gd:Option (Nat×Bool)}{v:Value}{T:F7}
theorem B7d:∀(vs cs:List Value)(off:Nat)(cs':List Value),U9 cs off vs=some cs'→
 (vs.toArray.zipIdx.foldl (fun(a:Array Value)(p:Value×Nat)=>a.setIfInBounds (off+p.2) p.1) cs.toArray)=cs'.toArray:=by
 intro vs cs off cs' h
 have key:∀(vs cs:List Value)(off k:Nat)(cs':List Value),U9 cs (off+k) vs=some cs'→
  ((vs.zipIdx k).foldl (fun(a:Array Value)(p:Value×Nat)=>a.setIfInBounds (off+p.2) p.1) cs.toArray)=cs'.toArray:=by
  intro vs;induction vs with
  |nil=>intro cs off k cs' h;cases h;simp
  |cons v vs ih=>
   intro cs off k cs' h;simp only[U9] at h;split at h
   ·rename_i c1 h1;have e:=(B0a _ _ _ _ h1).1;simp only[List.zipIdx_cons,List.foldl_cons]
    have:=ih c1 off (k+1) cs' (by rw[←Nat.add_assoc];exact h)
    rw[←this,←e];simp
   ·cases h
 have:=key vs cs off 0 cs' (by simpa using h)
 rw[←this];rw[←Array.foldl_toList];simp
theorem B3z(hT:T.ok P)(fs:Array Field)(places:Array (Nat×Nat))(hp:∀(k:Nat)(fd:Field)(e:TyE),fs[k]?=some fd→D6 T fd.type=some e→places[k]?=some (fd.offset,e.size)):
 ∀(ps:List (Nat×List Value))(vs:List (Nat×Value))(cs cs':List Value),A6y fs T cs ps=some cs'→ps.map (fun p=>(p.1,p.2.toArray))=vs.map (fun p=>(p.1,p.2.cells))→
  Instr.fill (fun k=>places[k]?) cs.toArray vs=some cs'.toArray
 |[],vs,cs,cs',h,hv=>by
  cases vs with
  |nil=>cases h;rfl
  |cons _ _=>cases hv
 |(k,l)::ps,vs,cs,cs',h,hv=>by
  cases vs with
  |nil=>cases hv
  |cons p vs=>
   obtain⟨k',u⟩:=p;simp only[F0w,List.cons.injEq,Prod.mk.injEq] at hv;obtain⟨⟨rfl,hu⟩,hv⟩:=hv;simp only[A6y] at h;split at h
   ·rename_i fd hfd;split at h
    ·rename_i e he;cases hb:(E9p l.length e.size&&F0e 0 l.length) with
     |false=>rw[hb] at h;cases h
     |true=>
      rw[hb] at h;simp only[cond_true] at h;simp only[E9j] at hb;split at h
      ·rename_i c1 h1;have hlen:=E9m hb.1;have hpos:0<l.length:=by simpa [F1j] using hb.2
       have hpl:=hp k fd e hfd he;obtain⟨_,e2⟩:=A7b _ _ _ _ h1;have ih:=B3z hT fs places hp ps vs c1 cs' h hv;have hf:=B7d l cs fd.offset c1 h1;simp only[Instr.fill,hpl,←hu];rw[if_neg]
       ·rw[←ih,←hf]
       ·simp[hlen];omega
      ·cases h
    ·cases h
   ·cases h
theorem A1u:∀(l:List (Nat×Operand))(ps:List (Nat×List Value)),Y3 n f l=some ps→ps.map (fun p=>(p.1,p.2.toArray))=(l.map fun p=>(p.1,ev n f p.2)).map (fun p=>(p.1,p.2.cells))
 |[],ps,h=>by cases h;rfl
 |(k,x)::l,ps,h=>by
  simp only[Y3] at h;split at h
  ·rename_i vs hvs;split at h
   ·rename_i r hr;cases h
    have:=A1u l r hr
    simp[A4f hvs,this]
   ·cases h
  ·cases h
theorem A7g(hT:T.ok P){t:Nat}{parts:Array (Nat×Operand)}{cs:List Value}(h:bld T n f t parts.toList=some cs):PV P n f ⟨dst,.build t parts,ty,pos,B4,gd⟩ (.agg cs.toArray):=by
 unfold PV;intro w;unfold bld at h;split at h
 ·rename_i fs _ _ zero he;cases hall:fs.toList.all (fun fd=>(D6 T fd.type).isSome) with
  |false=>rw[hall] at h;cases h
  |true=>
   rw[hall] at h;simp only[cond_true] at h;split at h
   ·rename_i ps hps;obtain⟨hu,_,ti,z,hi,hs,hby,hz,hzc⟩:=B6 hT he
    have hsz:∀fd∈fs,∀w,(do pure (fd.offset,←sizeOf fd.type):Sem (Nat×Nat)).run P w=.ok (fd.offset,((D6 T fd.type).map (·.size)).getD 0) w:=by
     intro fd hfd w
     have:=F0c.1 hall fd (by simpa using hfd)
     obtain⟨e,hee⟩:=Option.isSome_iff_exists.1 this;obtain⟨_,_,ti',z',hi',hs',_⟩:=B6 hT hee;simp[sizeOf,E0 hi',hs',hee]
    have hm:=E5b (P:=P) (fun fd:Field=>(do pure (fd.offset,←sizeOf fd.type):Sem (Nat×Nat))) (fun fd=>(fd.offset,((D6 T fd.type).map (·.size)).getD 0)) fs hsz w;have hfill:=B3z hT fs (fs.map fun fd=>(fd.offset,((D6 T fd.type).map (·.size)).getD 0)) (fun k fd e h1 h2=>by simp[h1,h2]) ps (parts.toList.map fun p=>(p.1,ev n f p.2)) zero cs h (A1u _ _ hps);have hpl:(parts.map fun(k,x)=>(k,ev n f x)).toList=parts.toList.map fun p=>(p.1,ev n f p.2):=by simp
    have h1:(zeroValue t).run P w=.ok z w:=by simp[zeroValue,E0 hi,hz]
    have hb:(Instr.build t (parts.map fun(k,x)=>(k,ev n f x))).run P w=.ok (.agg cs.toArray) w:=by
     unfold Instr.build;rw[G8 _ _ _ _ _ h1,G8 _ _ _ _ _ (run_underlying hu w)]
     dsimp only
     rw[G8 _ _ _ _ _ hm,hpl,hzc,hfill];rfl
    simp only[execOp];rw[G8 _ _ _ _ _ hb];rfl
   ·cases h
 ·cases h
end
theorem St.weaken{i i':Imm}{L:SH}{w:World}(h:St i' L w)(hi:i.le i'):St i L w:=
 ⟨h.os.trans hi.os,h.tape.trans hi.tape,h.output.trans hi.output,fun b o hb=>h.imm b o (hi.blk b o hb),h.nodup,h.own,fun p hp=>by
  cases hb:i.blk p.1 with
  |none=>rfl
  |some o=>have:=h.sep p hp;rw[hi.blk _ _ hb] at this;cases this⟩
@[irreducible] def QS(P:Program)(all:List Oper)(n:Nat)(r:List Oper)(f:Fr)(i:Imm)(L:SH)(K:Fr→Prop):Prop:=
 ∀ds,wpQuiet P all.toArray (St i L) (fun a=>∃f',a=ofD n ds f'∧K f') r (ofD n ds f)
section
variable{P:Program}{all:List Oper}{n:Nat}{f:Fr}{i:Imm}{L:SH}{r:List Oper}{K:Fr→Prop}
theorem B9y{F:Fence}(hF:Wd F){C:World→Prop}{o:Oper}{a:Act}{K:Act→Prop}{K':Act→World→Prop}{Q':Exit→Act→World→Prop}{w:World}(hw:C w)(h:∀a w',C w'→K a→K' a w')(hh:o.quiet P a C K):o.wpIn F 0 P a w K' Q':=by
 obtain⟨v,h1,h2⟩:=hh;have h3:=h1 w hw;unfold Oper.quietAt at h3;unfold Oper.wpIn;refine⟨fun f' _=>hF.fn f',?_⟩
 rw[Oper.semAt_eq F.round a.eval o fun c hc=>by
  obtain⟨dst,op,ty,pos,B4,gd⟩:=o;simp only at hc;subst hc;simp only[execOp,Sem.run_bind] at h3;cases hr:(resolve a.eval c ty).run P w with
  |ok x w'=>rw[hr] at h3;simp only[Result.andThen,Sem.run_pure] at h3;exact h3
  |halt x w'=>rw[hr] at h3;exact h3]
 generalize (execOp a.eval o).run P w=r at*;cases r with
 |ok n w'=>
  cases n<;>simp only[Oper.quietUpon] at h3<;>simp only[Oper.uponIn]
  case value u=>
   obtain⟨e1,e2⟩:=h3;rw[e1,e2];exact h _ _ hw h2
  case skip=>
   obtain⟨e1,e2⟩:=h3;rw[e1,←e2];exact h _ _ hw h2
  case enter f args=>
   obtain⟨e1,hc⟩:=h3;rw[e1];exact⟨hF.depth,hF.calls (hc.mono fun e w'' ⟨he,hw''⟩=>by subst he;exact h _ _ hw'' h2)⟩
 |halt x w'=>simp only[Oper.quietUpon] at h3
theorem B9x{F:Fence}(hF:Wd F){C:World→Prop}{ops:Array Oper}{j:Nat}{a:Act}{K:Act→Prop}{K':Act→World→Prop}{Q':Exit→Act→World→Prop}{w:World}(hC:C w)(h:∀a w',C w'→K a→K' a w')(hh:qOp P ops C j K a):wpOpIn F 0 P ops Q' j K' a w:=by
 unfold qOp at hh;unfold wpOpIn;split
 ·rename_i ho;simp only[ho] at hh;exact h _ _ hC hh
 ·rename_i o ho;simp only[ho] at hh;split
  ·rename_i hw;simp only[hw,if_true] at hh;exact B9y hF hC h hh
  ·rename_i hw;simp only[hw] at hh;exact⟨fun f' _=>hF.fn f',h _ _ hC hh⟩
theorem A4k{F:Fence}(hF:Wd F){C:World→Prop}{ops:Array Oper}{md:Region.Mode}{Q:Act→Prop}{Q':Exit→Act→World→Prop}(hQ:∀a w,C w→Q a→Q' .normal a w):∀(fuel:Nat)(listed:Array Bool)(a:Act)(w:World),C w→
 wpAnyQ P md ops C Q fuel listed a→wpAnyIn F 0 P md ops Q' fuel listed a w
 |0,_,_,_,hw,h=>⟨h.1,hQ _ _ hw h.2⟩
 |fuel+1,_,_,_,hw,h=>⟨fun h0=>hQ _ _ hw (h.1 h0),fun i hi=>B9x hF hw (fun a' w' hw'=>A4k hF hQ fuel _ a' w' hw') (h.2 i hi)⟩
theorem B1h{F:Fence}(hF:Wd F){C:World→Prop}{ops:Array Oper}{id:Nat}{Q:Exit→Act→World→Prop}{a:Act}{w:World}(hm:P.follows .mixedOrders=true)(hB:Region.lexB .any ops=true)(hC:C {w with drawn:=w.drawn+1})
 (h:wpQuiet P ops C (fun a'=>∀w',C w'→Q .normal a' w') ops.toList a):(Code.region id ops true).wpIn F 0 P Q a w:=by
 simp only[Region.lexB,E9j] at hB;refine wpIn_region_any hm (A4k hF (Q:=fun a'=>∀w',C w'→Q .normal a' w') (fun _ w' hw' h=>h w' hw') _ _ _ _ hC ?_)
 have:=wpAnyQ_lex (C:=C) (md:=.any) hB.1 ops.toList 0 (Array.replicate ops.size false) a (by simp) (by simpa using hB.2) h
 simpa using this
theorem C8{id:Nat}{Q:Ex→Fr→Imm→SH→Prop}(hm:P.follows .mixedOrders=true)(hB:Region.lexB .any all.toArray=true)(h:QS P all n all f i L fun f'=>Q .normal f' i L):CS P n (.region id all.toArray true) f i L Q:=by
 unfold CS;intro F hF ds w hw R hR;unfold QS at h;refine B1h hF (C:=St i L) hm hB hw.drew ?_
 have key:∀(r:List Oper)(a:Act)(A B:Act→Prop),(∀a,A a→B a)→wpQuiet P all.toArray (St i L) A r a→wpQuiet P all.toArray (St i L) B r a:=by
  intro r;induction r with
  |nil=>intro a A B hab h;exact hab a h
  |cons o r ih=>
   intro a A B hab h;simp only[wpQuiet] at h⊢;split at h
   ·rename_i hw;rw[if_pos hw];exact Oper.quiet_mono (fun a h=>ih a A B hab h) h
   ·rename_i hw;rw[if_neg hw];exact ih _ A B hab h
 have:=key all (ofD n ds f) _ (fun a'=>∀w',St i L w'→R .normal a' w') (fun a ⟨f',ha,hk⟩ w' hw'=>by rw[ha];exact hR .normal f' i L w' (Imm.le.refl i) hw' hk) (h ds)
 simpa using this
theorem QS.nil(h:K f):QS P all n [] f i L K:=by unfold QS;exact fun ds=>⟨f,rfl,h⟩
theorem QS.skip{o:Oper}(hg:P9 n f all o=false)(h:QS P all n r (F3 f o.dst undef) i L K):QS P all n (o::r) f i L K:=by
 unfold QS at*;intro ds;simp only[wpQuiet];rw[if_neg (by rw[A9c,hg];decide),Y2];exact h ds
theorem F0{dst:Option Nat}{op:Op}{ty:TypeId}{pos:String}{B4:Array Edge}{gd:Option (Nat×Bool)}{v:Value}(hv:LV P n f i L ⟨dst,op,ty,pos,B4,gd⟩ v)(hg:P9 n f all ⟨dst,op,ty,pos,B4,gd⟩=true)(h:QS P all n r (F3 f dst v) i L K):QS P all n (⟨dst,op,ty,pos,B4,gd⟩::r) f i L K:=by
 unfold QS at*;intro ds;simp only[wpQuiet];rw[if_pos (by rw[A9c,hg])];refine⟨v,fun w hw=>?_,by rw[Y2];exact h ds⟩;unfold LV at hv;unfold Oper.quietAt;rw[V7,hv w hw];exact⟨rfl,rfl⟩
theorem D3{dst:Option Nat}{op:Op}{ty:TypeId}{pos:String}{B4:Array Edge}{gd:Option (Nat×Bool)}{v:Value}(hv:PV P n f ⟨dst,op,ty,pos,B4,gd⟩ v)(hg:P9 n f all ⟨dst,op,ty,pos,B4,gd⟩=true)(h:QS P all n r (F3 f dst v) i L K):QS P all n (⟨dst,op,ty,pos,B4,gd⟩::r) f i L K:=
 F0 (by unfold LV;unfold PV at hv;exact fun w _=>hv w) hg h
theorem D7j{g:FuncId}{as:Array Operand}{ts:Array TypeId}{vs:List Value}{dst:Option Nat}{ty:TypeId}{pos:String}{B4:Array Edge}{gd:Option (Nat×Bool)}{v:Value}
 (hc:E6 P g vs i L fun u _ L'=>u=v∧L'=L) (hg:P9 n f all ⟨dst,.call ⟨.value (.func g),as,ts⟩,ty,pos,B4,gd⟩=true) (hf:Z2 P g=true) (ha:as.toList.map (ev n f)=vs)
 (h:QS P all n r (F3 f dst v) i L K):QS P all n (⟨dst,.call ⟨.value (.func g),as,ts⟩,ty,pos,B4,gd⟩::r) f i L K:=by
 unfold QS at*;intro ds;simp only[wpQuiet];rw[if_pos (by rw[A9c,hg])];refine⟨v,fun w hw=>?_,by rw[Y2];exact h ds⟩;unfold Oper.quietAt
 have:as.map (ev n f)=vs.toArray:=by rw[←ha];exact F1w (by simp)
 have hx:(execOp (ev n f) ⟨dst,.call ⟨.value (.func g),as,ts⟩,ty,pos,B4,gd⟩).run P w=.ok (.enter g vs.toArray) w:=by
  simp[execOp,resolve,this,ev,Deferred.ofValue,invoke,U6 hf]
 rw[V7,hx];refine⟨rfl,(hc w hw).mono ?_⟩;rintro e w' ⟨u,i',L',rfl,hi,hs,rfl,rfl⟩;exact⟨rfl,hs.weaken hi⟩
theorem B0w{g:FuncId}{x:Operand}{fst cap:Array Value}{as:Array Operand}{ts:Array TypeId}{vs:List Value}{dst:Option Nat}{ty:TypeId}{pos:String}{B4:Array Edge}{gd:Option (Nat×Bool)}{v:Value}
 (hc:E6 P g vs i L fun u _ L'=>u=v∧L'=L) (hg:P9 n f all ⟨dst,.call ⟨.value x,as,ts⟩,ty,pos,B4,gd⟩=true) (hx:ev n f x=.func (.func g) fst cap) (hf:Z2 P g=true) (ha:fst.toList++as.toList.map (ev n f)++cap.toList=vs)
 (h:QS P all n r (F3 f dst v) i L K):QS P all n (⟨dst,.call ⟨.value x,as,ts⟩,ty,pos,B4,gd⟩::r) f i L K:=by
 unfold QS at*;intro ds;simp only[wpQuiet];rw[if_pos (by rw[A9c,hg])];refine⟨v,fun w hw=>?_,by rw[Y2];exact h ds⟩;unfold Oper.quietAt
 have:fst++(as.map (ev n f)++cap)=vs.toArray:=by rw[←ha];exact F1w (by simp)
 have hx:(execOp (ev n f) ⟨dst,.call ⟨.value x,as,ts⟩,ty,pos,B4,gd⟩).run P w=.ok (.enter g vs.toArray) w:=by
  simp[execOp,resolve,hx,Deferred.ofValue,invoke,U6 hf,this]
 rw[V7,hx];refine⟨rfl,(hc w hw).mono ?_⟩;rintro e w' ⟨u,i',L',rfl,hi,hs,rfl,rfl⟩;exact⟨rfl,hs.weaken hi⟩
end
section
variable{P:Program}{all:List Oper}{n:Nat}{f:Fr}{i:Imm}{L:SH}{r:List Oper}{K:Fr→Prop}{dst:Option Nat}{ty:TypeId}{pos:String}{B4:Array Edge}{gd:Option (Nat×Bool)}
 {t t2:Nat} {x y:Operand} {a b:Int} {k:IntKind} {p q:ByteArray}
theorem E7h(hx:ev n f x=.int k a)(hy:ev n f y=.int k b)(hg:P9 n f all ⟨dst,.binOp .gtr t x y t2,ty,pos,B4,gd⟩=true)
 (hT:b<a→QS P all n r (F3 f dst (.bool true)) i L K) (hF:a≤b→QS P all n r (F3 f dst (.bool false)) i L K):QS P all n (⟨dst,.binOp .gtr t x y t2,ty,pos,B4,gd⟩::r) f i L K:=by
 by_cases h:b<a
 ·exact D3 (J4 hx hy h) hg (hT h)
 ·exact D3 (I0 hx hy (by omega)) hg (hF (by omega))
theorem E7j(hx:ev n f x=.int k a)(hy:ev n f y=.int k b)(hg:P9 n f all ⟨dst,.binOp .eql t x y t2,ty,pos,B4,gd⟩=true)
 (hT:a=b→QS P all n r (F3 f dst (.bool true)) i L K) (hF:a≠b→QS P all n r (F3 f dst (.bool false)) i L K):QS P all n (⟨dst,.binOp .eql t x y t2,ty,pos,B4,gd⟩::r) f i L K:=by
 by_cases h:a=b
 ·exact D3 (G9 hx hy h) hg (hT h)
 ·exact D3 (H5 hx hy h) hg (hF h)
theorem A8e(hx:ev n f x=.string p)(hy:ev n f y=.string q)(hg:P9 n f all ⟨dst,.binOp .eql t x y t2,ty,pos,B4,gd⟩=true)
 (hT:p.toList=q.toList→QS P all n r (F3 f dst (.bool true)) i L K) (hF:p.toList≠q.toList→QS P all n r (F3 f dst (.bool false)) i L K):QS P all n (⟨dst,.binOp .eql t x y t2,ty,pos,B4,gd⟩::r) f i L K:=by
 by_cases h:p.toList=q.toList
 ·exact D3 (B0x hx hy h) hg (hT h)
 ·exact D3 (B0y hx hy h) hg (hF h)
theorem E0a(hx:ev n f x=.string p)(hy:ev n f y=.string q)(hg:P9 n f all ⟨dst,.binOp .neq t x y t2,ty,pos,B4,gd⟩=true)
 (hT:p.toList≠q.toList→QS P all n r (F3 f dst (.bool true)) i L K) (hF:p.toList=q.toList→QS P all n r (F3 f dst (.bool false)) i L K):QS P all n (⟨dst,.binOp .neq t x y t2,ty,pos,B4,gd⟩::r) f i L K:=by
 by_cases h:p.toList=q.toList
 ·exact D3 (B8e hx hy h) hg (hF h)
 ·exact D3 (B8d hx hy h) hg (hT h)
end
end Go.Eng
namespace Go.Eng
open Go
def pvE(T:F7)(n:Nat)(f:Fr):Op→Option Value
 | .move x=>sv (ev n f x)
 | .assign x=>sv (ev n f x)
 | .nilCheck x=>match ev n f x with
   | .pointer (some a)=>some (.pointer (some a))
   |_=>none
 | .extract x ix=>match ev n f x with
   | .tuple vs=>(match vs[ix]? with|some v=>sv v|none=>none)
   |_=>none
 | .pick c a b=>match ev n f c with
   | .bool true=>sv (ev n f a)
   | .bool false=>sv (ev n f b)
   |_=>none
 | .fieldAddr s x fld=>match ev n f x with
   | .pointer (some ⟨b,o,none⟩)=>(match E2y T s fld with|some off=>some (.pointer (some ⟨b,o+off,none⟩))|none=>none)
   |_=>none
 | .field s x fld=>match ev n f x with
   | .agg cs=>E2x T s fld cs.toList
   |_=>none
 | .build t parts=>match bld T n f t parts.toList with
   |some cs=>some (.agg cs.toArray)
   |none=>none
 | .unOp .not _ x=>match ev n f x with
   | .bool b=>some (.bool (!b))
   |_=>none
 | .binOp .eql t x y _=>match ev n f x,ev n f y with
   | .pointer none,.pointer none=>bif R5 T T5 t then some (.bool true) else none
   | .pointer (some _),.pointer none=>bif R5 T T5 t then some (.bool false) else none
   | .pointer none,.pointer (some _)=>bif R5 T T5 t then some (.bool false) else none
   | .slice none _ _,.slice none 0 0=>bif R5 T A1e t then some (.bool true) else none
   | .slice (some _) _ _,.slice none 0 0=>bif R5 T A1e t then some (.bool false) else none
   | .map none,.map none=>bif R5 T A6w t then some (.bool true) else none
   | .map (some _),.map none=>bif R5 T A6w t then some (.bool false) else none
   |_,_=>none
 | .binOp .neq t x y _=>match ev n f x,ev n f y with
   | .pointer none,.pointer none=>bif R5 T T5 t then some (.bool false) else none
   | .pointer (some _),.pointer none=>bif R5 T T5 t then some (.bool true) else none
   | .pointer none,.pointer (some _)=>bif R5 T T5 t then some (.bool true) else none
   |_,_=>none
 |_=>none
theorem V8{c:Bool}{a v:Value}(h:(bif c then some a else none)=some v):c=true∧a=v:=by
 cases c with
 |true=>cases h;exact⟨rfl,rfl⟩
 |false=>cases h
theorem S6{P:Program}{n:Nat}{f:Fr}{dst:Option Nat}{ty:TypeId}{pos:String}{B4:Array Edge}{gd:Option (Nat×Bool)}{v:Value}{T:F7}(hT:T.ok P){op:Op}(h:pvE T n f op=some v):PV P n f ⟨dst,op,ty,pos,B4,gd⟩ v:=by
 unfold pvE at h;split at h
 ·exact B5n h
 ·exact A1z h
 ·split at h
  ·rename_i a ha;cases h;exact B4g ha
  ·cases h
 ·split at h
  ·rename_i vs hvs;split at h
   ·rename_i u hu;rw[A2c] at h;cases h;exact A5f hvs hu
   ·cases h
  ·cases h
 ·split at h
  ·rename_i hc;exact C9u hc h
  ·rename_i hc;exact C9v hc h
  ·cases h
 ·split at h
  ·rename_i b o hb;split at h
   ·rename_i off hoff;cases h;exact A5r hT hb hoff
   ·cases h
  ·cases h
 ·split at h
  ·rename_i cs hcs;exact B8f hT (cs:=cs.toList) hcs h
  ·cases h
 ·split at h
  ·rename_i cs hcs;cases h;exact A7g hT hcs
  ·cases h
 ·split at h
  ·rename_i b hb;cases h;exact E4j hb
  ·cases h
 ·split at h
  ·rename_i hx hy;obtain⟨ht,rfl⟩:=V8 h;exact E7w hT ht hx hy
  ·rename_i hx hy;obtain⟨ht,rfl⟩:=V8 h;exact E7v hT ht hx hy
  ·rename_i hx hy;obtain⟨ht,rfl⟩:=V8 h;exact E7x hT ht hx hy
  ·rename_i hx hy;obtain⟨ht,rfl⟩:=V8 h;exact E7u hT ht hx hy
  ·rename_i hx hy;obtain⟨ht,rfl⟩:=V8 h;exact E7t hT ht hx hy
  ·rename_i hx hy;obtain⟨ht,rfl⟩:=V8 h;exact E7z hT ht hx hy
  ·rename_i hx hy;obtain⟨ht,rfl⟩:=V8 h;exact E7y hT ht hx hy
  ·cases h
 ·split at h
  ·rename_i hx hy;obtain⟨ht,rfl⟩:=V8 h;exact E7p hT ht hx hy
  ·rename_i hx hy;obtain⟨ht,rfl⟩:=V8 h;exact E7n hT ht hx hy
  ·rename_i hx hy;obtain⟨ht,rfl⟩:=V8 h;exact E7q hT ht hx hy
  ·cases h
 ·cases h
def Rd(i:Imm)(L:SH)(v:Value)(sz n:Nat)(xs:List Value):Prop:=
 ∃ao cap,v=.slice ao n cap∧xs.length=n*sz∧(xs=[]∨∃b o cs t fz,ao=some ⟨b,o,none⟩∧Has i L b (.cells (E9d cs) t fz)∧∀j,j<xs.length→cs[o+j]?=xs[j]?)
def Sl(i:Imm)(v:Value)(sz n:Nat)(xs:List Value):Prop:=
 ∃ao cap,v=.slice ao n cap∧xs.length=n*sz∧(xs=[]∨∃b o cs t fz,ao=some ⟨b,o,none⟩∧i.blk b=some (.cells (E9d cs) t fz)∧∀j,j<xs.length→cs[o+j]?=xs[j]?)
theorem Sl.le{i i':Imm}{v:Value}{sz n:Nat}{xs:List Value}(h:Sl i v sz n xs)(hi:i.le i'):Sl i' v sz n xs:=by
 obtain⟨ao,cap,h1,h2,h3⟩:=h;refine⟨ao,cap,h1,h2,h3.imp id ?_⟩
 rintro⟨b,o,cs,t,fz,h4,h5,h6⟩
 exact⟨b,o,cs,t,fz,h4,hi.blk _ _ h5,h6⟩
theorem Sl.rd{i:Imm}{v:Value}{sz n:Nat}{xs:List Value}(h:Sl i v sz n xs)(L:SH):Rd i L v sz n xs:=by
 obtain⟨ao,cap,h1,h2,h3⟩:=h;refine⟨ao,cap,h1,h2,h3.imp id ?_⟩
 rintro⟨b,o,cs,t,fz,h4,h5,h6⟩
 exact⟨b,o,cs,t,fz,h4,Has.imm h5,h6⟩
theorem Sl.nil(i:Imm)(sz:Nat):Sl i (.slice none 0 0) sz 0 []:=⟨none,0,rfl,by simp,.inl rfl⟩
def J2(e:TypeId)(v:Value)(sz n:Nat)(xs:List Value)(O:SH):Prop:=
 xs.length=n*sz∧((v=.slice none 0 0∧n=0∧O=[])∨
  ∃g cap sp,v=.slice (some ⟨g,0,none⟩) n cap∧n≤cap∧(xs++sp).length=cap*sz∧O=[(g,.cells (xs++sp).toArray e (0,0))])
theorem J2.nil(e:TypeId)(sz:Nat):J2 e (.slice none 0 0) sz 0 [] []:=⟨by simp,.inl ⟨rfl,rfl,rfl⟩⟩
theorem J2.rd{e:TypeId}{v:Value}{sz n:Nat}{xs:List Value}{O L:SH}{i:Imm}(h:J2 e v sz n xs O):Rd i (O++L) v sz n xs:=by
 obtain⟨h1,⟨rfl,rfl,rfl⟩|⟨g,cap,sp,rfl,h2,h3,rfl⟩⟩:=h
 ·exact⟨none,0,rfl,h1,.inl (F0t (by simpa using h1))⟩
 ·refine⟨some ⟨g,0,none⟩,cap,rfl,h1,.inr ⟨g,0,xs++sp,e,(0,0),rfl,.inr (by simp),fun j hj=>?_⟩⟩;rw[F1b,E9t hj]
theorem J2.freeze{e:TypeId}{v:Value}{sz n:Nat}{xs:List Value}{O L:SH}{i:Imm}{w:World}(h:J2 e v sz n xs O)(hs:St i (O++L) w):∃i',i.le i'∧St i' L w∧Sl i' v sz n xs:=by
 obtain⟨h1,⟨rfl,rfl,rfl⟩|⟨g,cap,sp,rfl,h2,h3,rfl⟩⟩:=h
 ·refine⟨i,Imm.le.refl i,hs,none,0,rfl,h1,.inl (F0t (by simpa using h1))⟩
 ·refine⟨i.add g _,(St.freeze hs).1,(St.freeze hs).2,some ⟨g,0,none⟩,cap,rfl,h1,.inr ⟨g,0,xs++sp,e,(0,0),rfl,by simp[Imm.add],fun j hj=>?_⟩⟩;rw[F1b,E9t hj]
section
variable{P:Program}{n:Nat}{f:Fr}{i:Imm}{L:SH}{dst:Option Nat}{ty:TypeId}{pos:String}{B4:Array Edge}{gd:Option (Nat×Bool)}{v:Value}{T:F7}{K:Value→Imm→SH→Prop}
theorem A1d(w:World){t ty' e:TypeId}{ti:TypeInfo}(ht:P.underlying t=some (.slice e))(hi:P.info? e=some ti)(base:Option Addr)(k cap:Nat)(hk:k≤cap)(x:Option Addr)(c:Nat):
 (Builtin.append_ #[t,t] ty' #[.slice base k cap,.slice x 0 c]).run P w=.ok (.slice base k cap) w:=by
 cases x<;>cases base<;>simp[Builtin.append_,run_underlying ht,sizeOf,E0 hi,Builtin.lenOf,hk,Builtin.firstCells,loadCells,loadCellsFrom,storeCells]
theorem B9e(hT:T.ok P){t e sz bytes:Nat}{x y:Operand}{u:Value}{k m:Nat}{xs news:List Value}{O L0:SH}(hx:ev n f x=v)(hy:ev n f y=u)(hte:∃d,D6 T t=some d∧d.desc=.slice e)(hee:∃d,D6 T e=some d∧d.size=sz∧d.bytes=bytes)(hsz:0<sz)
 (hv:J2 e v sz k xs O) (hL:L=O++L0) (hu:Rd i L u sz m news) (hone:∀c∈news,c.oneCell'=true) (hmax:(k+m)*bytes≤140737488355328) (hmax2:k+m≤9223372036854775807)
 (h:∀v' O',J2 e v' sz (k+m) (xs++news) O'→(v'=.slice none 0 0→v=.slice none 0 0∧m=0)→K v' i (O'++L0)):P3 P n ⟨dst,.call ⟨.builtin .append,#[x,y],#[t,t]⟩,ty,pos,B4,gd⟩ f i L K:=by
 subst hL;obtain⟨d1,ht,hd⟩:=hte;obtain⟨d2,he,hes,heb⟩:=hee;have hu1:=(B6 hT ht).und;rw[hd] at hu1;obtain⟨_,hzl,ti,z,hi,hs,hb,hz,hzc⟩:=B6 hT he;have hzs:z.cells.size=sz:=by rw[hzc,List.size_toArray,hzl,hes]
 rw[hes] at hs;rw[heb] at hb;obtain⟨uo,uc,rfl,hul,hur⟩:=hu;have hlen:(xs++news).length=(k+m)*sz:=by rw[E9h,hv.1,hul,F1f]
 refine F5 fun w hw=>?_
 have hex:∀r w',(Builtin.append_ #[t,t] ty #[v,.slice uo m uc]).run P w=.ok r w'→(execOp (ev n f) ⟨dst,.call ⟨.builtin .append,#[x,y],#[t,t]⟩,ty,pos,B4,gd⟩).run P w=.ok (.value r) w':=by
  intro r w' hr;simp[execOp,resolve,hx,hy,invoke,builtin,hr]
 by_cases hm:m=0
 ·subst hm;have hn:news=[]:=F0t (by simpa using hul);subst hn;refine⟨v,w,i,O++L0,hex _ _ ?_,Imm.le.refl i,hw,h v O (by simpa using hv) (fun hv=>⟨hv,rfl⟩)⟩;obtain⟨_,⟨rfl,rfl,rfl⟩|⟨g,cap,sp,rfl,h2,_,rfl⟩⟩:=hv
  ·exact A1d w hu1 hi none 0 0 (E9q _) uo uc
  ·exact A1d w hu1 hi _ k cap h2 uo uc
 ·have hne:news≠[]:=by
   intro h0;rw[h0] at hul
   have:0<m*sz:=Nat.mul_pos (by omega) hsz
   simp at hul;omega
  obtain⟨b,o,cs,tt,fz,rfl,hbl,hcell⟩:=hur.resolve_left hne
  have hnews:∀j c,news[j]?=some c→w.cell? ((⟨b,o,none⟩:Addr).add j)=some c:=by
   intro j c hj;rw[E8,P7 (hbl.block hw),hcell j (E9e.1 hj).1,hj]
  obtain⟨hv1,⟨rfl,rfl,rfl⟩|⟨g,cap,sp,rfl,h2,h3,rfl⟩⟩:=hv
  ·
   have hxs:xs=[]:=F0t (by simpa using hv1);subst hxs;rw[F1b] at hmax;have hr:=run_append_nil (P:=P) (ty:=ty) w t e ti z hu1 hi hz ⟨b,o,none⟩ m uc news (by rw[hs];exact hul) hnews (by omega) (by omega) (by rw[hb];omega);refine⟨_,_,i,_,hex _ _ hr,Imm.le.refl i,St.push (w:=w.drew) hw.drew rfl rfl rfl rfl,?_⟩;have hge:=grownCap_ge w m 0 e;refine h _ [(w.heap.size,_)] ⟨by simpa using hlen,.inr ⟨w.heap.size,grownCap w m 0 e,(F1n z.cells (grownCap w m 0 e-m)).toList,by simp,by omega,?_,?_⟩⟩ (fun h0=>by cases h0)
   ·simp only[List.nil_append,E9h,Array.length_toList,size_zeroCells];rw[hul,hzs,←F1f];congr 1;omega
   ·simp
  ·by_cases hroom:k+m≤cap
   ·
    have hg:w.heap[g]?=some (.cells (xs++sp).toArray e (0,0)):=hw.own (g,_) (by simp)
    have hr:=run_append_room (P:=P) (ty:=ty) w t e ti hu1 hi g k cap (xs++sp).toArray hg ⟨b,o,none⟩ m uc news (by rw[hs];exact hul) hnews hone hroom (by
     rw[hs,List.size_toArray,h3,hul,←F1f];exact Nat.mul_le_mul_right _ hroom)
    refine⟨_,_,i,_,hex _ _ hr,Imm.le.refl i,hw.put (k:=0) (b:=g) (o:=.cells (xs++sp).toArray e (0,0)) rfl rfl rfl rfl (A7j w g _ _ _ _ hg),?_⟩;rw[hs,←hv1];simp only[List.cons_append,List.nil_append,List.set_cons_zero];refine h _ [(g,_)] ⟨hlen,.inr ⟨g,cap,sp.drop news.length,rfl,hroom,?_,?_⟩⟩ (fun h0=>by cases h0)
    ·rw[E9h,E9h,List.length_drop];rw[E9h] at h3
     have:(k+m)*sz≤cap*sz:=Nat.mul_le_mul_right _ hroom
     rw[F1f] at this;omega
    ·simp[List.drop_append]
   ·
    have hg:w.heap[g]?=some (.cells (xs++sp).toArray e (0,0)):=hw.own (g,_) (by simp)
    have holds:∀j c,xs[j]?=some c→w.cell? ((⟨g,0,none⟩:Addr).add j)=some c:=by
     intro j c hj;rw[E8,P7 hg,F1b,E9t (E9e.1 hj).1,hj]
    have hr:=run_append_grow (P:=P) (ty:=ty) w t e ti z hu1 hi hz ⟨g,0,none⟩ k cap xs (by rw[hs];exact hv1) holds ⟨b,o,none⟩ m uc news (by rw[hs];exact hul) hnews (by omega) (by omega) (by rw[hb];exact growslice_fits (by omega) hmax);obtain⟨arr,harr⟩:∃arr,arr=xs.toArray++news.toArray++F1n z.cells (grownCap w (k+m) cap e-(k+m)):=⟨_,rfl⟩;rw[←harr] at hr;have hS:St i ((w.heap.size,.cells arr e (0,0))::(g,.cells (xs++sp).toArray e (0,0))::L0) (w.drew.alloc (.cells arr e (0,0))):=St.push (w:=w.drew) hw.drew rfl rfl rfl rfl;refine⟨_,_,i,(w.heap.size,.cells arr e (0,0))::L0,hex _ _ hr,Imm.le.refl i,(hS.perm (List.Perm.swap _ _ _)).drop,?_⟩;subst harr;have hge:=grownCap_ge w (k+m) cap e;refine h _ [(w.heap.size,_)] ⟨hlen,.inr ⟨w.heap.size,grownCap w (k+m) cap e,(F1n z.cells (grownCap w (k+m) cap e-(k+m))).toList,rfl,by omega,?_,?_⟩⟩ (fun h0=>by cases h0)
    ·simp only[E9h,Array.length_toList,size_zeroCells];rw[hv1,hul,hzs,←F1f,←F1f];congr 1;omega
    ·simp
theorem T7:∀(vs cs:List Value)(off:Nat),off+vs.length≤cs.length→U9 cs off vs=some (cs.take off++vs++cs.drop (off+vs.length))
 |[],cs,off,_=>by simp[U9]
 |v::vs,cs,off,h=>by
  simp only[F1h] at h;have hlt:off<cs.length:=by omega
  have h1:B9u cs off v=some (cs.set off v):=U2 cs off v cs[off] (E9v hlt);have h2:=T7 vs (cs.set off v) (off+1) (by simp;omega);simp only[U9,h1,h2,Option.some.injEq];exact((A7b (v::vs) cs off _ (by simp only[U9,h1,h2])).1)
def C5p:Nat→Nat→List (Nat×List Value)→Option (List Value)
 |_,_,[]=>some []
 |sz,k,(j,vs)::ps=>bif E9p j k&&E9p vs.length sz then(match C5p sz (k+1) ps with|some r=>catX vs r|none=>none) else none
where catX:List Value→List Value→Option (List Value)
 |[],r=>some r
 |a::l,r=>match catX l r with|some x=>some (a::x)|none=>none
theorem D6y:∀(l r x:List Value),C5p.catX l r=some x→x=l++r
 |[],r,x,h=>by cases h;rfl
 |a::l,r,x,h=>by
  simp only[C5p.catX] at h;split at h
  ·rename_i y hy;cases h;rw[D6y l r y hy];rfl
  ·cases h
theorem C1k(sz:Nat)(hsz:0<sz):∀(ps:List (Nat×List Value))(vs:List (Nat×Value))(k:Nat)(cs x:List Value),C5p sz k ps=some x→cs.length=(k+ps.length)*sz→
 ps.map (fun p=>(p.1,p.2.toArray))=vs.map (fun p=>(p.1,p.2.cells))→Instr.fill (fun j=>some (j*sz,sz)) cs.toArray vs=some (cs.take (k*sz)++x).toArray
 |[],vs,k,cs,x,h,hl,hv=>by
  cases vs with
  |nil=>cases h;simp only[Instr.fill];rw[List.take_of_length_le (by simp at hl;omega)];simp
  |cons _ _=>cases hv
 |(j,l)::ps,vs,k,cs,x,h,hl,hv=>by
  cases vs with
  |nil=>cases hv
  |cons p vs=>
   obtain⟨j',u⟩:=p;simp only[F0w,List.cons.injEq,Prod.mk.injEq] at hv;obtain⟨⟨rfl,hu⟩,hv⟩:=hv;simp only[C5p] at h;cases hb:(E9p j k&&E9p l.length sz) with
   |false=>rw[hb] at h;cases h
   |true=>
    rw[hb] at h;simp only[cond_true] at h;simp only[E9j] at hb;have hj:=E9m hb.1;have hll:=E9m hb.2;subst hj;split at h
    ·rename_i r hr;have hx:=D6y _ _ _ h;simp only[F1h] at hl;have hmul:(j+(ps.length+1))*sz=j*sz+sz+ps.length*sz:=by rw[F1f,F1f];omega
     have hp:=T7 l cs (j*sz) (by rw[hll,hl,hmul];omega);have hf:=B7d l cs (j*sz) _ hp
     have ih:=C1k sz hsz ps vs (j+1) (cs.take (j*sz)++l++cs.drop (j*sz+l.length)) r hr (by
      rw[E9h,E9h,List.length_take,List.length_drop,hll,hl,hmul,Nat.min_eq_left (by omega)]
      have:(j+1+ps.length)*sz=j*sz+sz+ps.length*sz:=by rw[F1f,F1f];omega
      omega) hv
     simp only[Instr.fill,←hu];rw[if_neg]
     ·rw[hf,ih,hx];congr 2
      have h1:(j+1)*sz=(cs.take (j*sz)++l).length:=by
       rw[E9h,List.length_take,hll,F1f,hl,hmul,Nat.min_eq_left (by omega)];omega
      rw[h1,List.take_left];simp
     ·simp[hll];rw[hl,hmul];omega
    ·cases h
def bsl(T:F7)(n:Nat)(f:Fr)(t len:Nat)(parts:List (Nat×Operand)):Option (Nat×List Value):=
 match D6 T t with
 |some ⟨.slice e,_,_,_⟩=>match D6 T e with
  |some x=>(match Y3 n f parts with|some ps=>bif E9p ps.length len&&F0e 0 x.size&&F0n (len*x.size) 16777216 then(match C5p x.size 0 ps with|some cs=>some (e,cs)|none=>none) else none|none=>none)
  |none=>none
 |_=>none
theorem A2p(hT:T.ok P){t len e:Nat}{parts:Array (Nat×Operand)}{cs:List Value}(h:bsl T n f t len parts.toList=some (e,cs))(k:∀b,K (.slice (some ⟨b,0,none⟩) len len) i ((b,.cells cs.toArray e (0,0))::L)):
 P3 P n ⟨dst,.buildSlice t len parts,ty,pos,B4,gd⟩ f i L K:=by
 unfold bsl at h;split at h
 ·rename_i e' _ _ _ he;split at h
  ·rename_i x hx;split at h
   ·rename_i ps hps;cases hb:(E9p ps.length len&&F0e 0 x.size&&F0n (len*x.size) 16777216) with
    |false=>rw[hb] at h;cases h
    |true=>
     rw[hb] at h;simp only[cond_true] at h;split at h
     ·rename_i cs' hcs;cases h;simp only[E9j] at hb;obtain⟨⟨hb1,hb2⟩,hb3⟩:=hb;have hlen:=E9m hb1;have hpos:0<x.size:=by simpa [F1j] using hb2
      have hle:len*x.size≤16777216:=E9w hb3;have hu:=(B6 hT he).und;obtain⟨_,hzl,ti,z,hi,hs,hby,hz,hzc⟩:=B6 hT hx;refine F5 fun w hw=>?_
      have h1:(zeroValue e).run P w=.ok z w:=by simp[zeroValue,E0 hi,hz]
      have hfl:∀base:List Value,base.length=len*x.size→Instr.fill (fun j=>some (j*x.size,x.size)) base.toArray (parts.toList.map fun p=>(p.1,ev n f p.2))=some cs.toArray:=by
       intro base hbl
       have:=C1k x.size hpos ps (parts.toList.map fun p=>(p.1,ev n f p.2)) 0 base cs hcs (by rw[hbl,hlen,F1b]) (A1u _ _ hps)
       simpa using this
      have hpl:(parts.map fun(k,x)=>(k,ev n f x)).toList=parts.toList.map fun p=>(p.1,ev n f p.2):=by simp
      refine⟨.slice (some ⟨w.heap.size,0,none⟩) len len,{w with heap:=w.heap.push (.cells cs.toArray e (0,0))},i,_,?_,Imm.le.refl i,hw.push rfl rfl rfl rfl,k _⟩
      have hrun:(Instr.buildSlice t len (parts.map fun(k,x)=>(k,ev n f x))).run P w=.ok (.slice (some ⟨w.heap.size,0,none⟩) len len) {w with heap:=w.heap.push (.cells cs.toArray e (0,0))}:=by
       unfold Instr.buildSlice;rw[G8 _ _ _ _ _ (run_underlying hu w)]
       dsimp only
       have hsz:(sizeOf e).run P w=.ok x.size w:=by simp[sizeOf,E0 hi,hs]
       rw[G8 _ _ _ _ _ hsz];rw[if_neg (by omega)];by_cases h0:len*x.size=0
       ·rw[if_pos h0,G8 _ _ _ _ _ (show(pure #[]:Sem (Array Value)).run P w=.ok #[] w from rfl)];have hb0:=hfl ((Array.range (len*x.size)).map ((#[]:Array Value)[· % (#[]:Array Value).size]!)).toList (by simp);rw[Array.toArray_toList] at hb0;rw[hpl,hb0];simp[newRow]
       ·rw[if_neg h0,G8 _ _ _ _ _ h1,G8 _ _ _ _ _ (show(pure z.cells:Sem (Array Value)).run P w=.ok z.cells w from rfl)];have hb0:=hfl ((Array.range (len*x.size)).map (z.cells[· % z.cells.size]!)).toList (by simp);rw[Array.toArray_toList] at hb0;rw[hpl,hb0];simp[newRow]
      simp only[execOp];rw[G8 _ _ _ _ _ hrun];rfl
     ·cases h
   ·cases h
  ·cases h
 ·cases h
end
end Go.Eng
namespace Go.Eng
open Go
section
variable{P:Program}{all:List Oper}{n:Nat}{r:List Oper}{f:Fr}{i:Imm}{L:SH}{K:Fr→Imm→SH→Prop}{dst:Option Nat}{ty:TypeId}{pos:String}{B4:Array Edge}{gd:Option (Nat×Bool)}{T:F7}{v:Value}
theorem B2q(hT:T.ok P){t e sz bytes:Nat}{x y:Operand}{u:Value}{k m:Nat}{xs news:List Value}{O L0:SH}(hg:P9 n f all ⟨dst,.call ⟨.builtin .append,#[x,y],#[t,t]⟩,ty,pos,B4,gd⟩=true)(hx:ev n f x=v)(hy:ev n f y=u)
 (hte:∃d,D6 T t=some d∧d.desc=.slice e) (hee:∃d,D6 T e=some d∧d.size=sz∧d.bytes=bytes) (hsz:0<sz)
 (hv:J2 e v sz k xs O) (hL:L=O++L0) (hu:Rd i L u sz m news) (hone:∀c∈news,c.oneCell'=true) (hmax:(k+m)*bytes≤140737488355328) (hmax2:k+m≤9223372036854775807)
 (h:∀v' O',J2 e v' sz (k+m) (xs++news) O'→(v'=.slice none 0 0→v=.slice none 0 0∧m=0)→RS P all n r (F3 f dst v') i (O'++L0) K):RS P all n (⟨dst,.call ⟨.builtin .append,#[x,y],#[t,t]⟩,ty,pos,B4,gd⟩::r) f i L K:=
 K5 hg (B9e hT hx hy hte hee hsz hv hL hu hone hmax hmax2 h)
theorem V9(hT:T.ok P){t len e:Nat}{parts:Array (Nat×Operand)}{cs:List Value}(hg:P9 n f all ⟨dst,.buildSlice t len parts,ty,pos,B4,gd⟩=true)(h:bsl T n f t len parts.toList=some (e,cs))
 (k:∀b,RS P all n r (F3 f dst (.slice (some ⟨b,0,none⟩) len len)) i ((b,.cells cs.toArray e (0,0))::L) K):RS P all n (⟨dst,.buildSlice t len parts,ty,pos,B4,gd⟩::r) f i L K:=
 K5 hg (A2p hT h k)
end
theorem A4g(e:TypeId)(sz len:Nat)(b:Nat)(cs:List Value)(h:cs.length=len*sz):J2 e (.slice (some ⟨b,0,none⟩) len len) sz len cs [(b,.cells cs.toArray e (0,0))]:=
 ⟨h,.inr ⟨b,len,[],rfl,E9q _,by simpa using h,by simp⟩⟩
theorem A9n{P:Program}{g:FuncId}{args:List Value}{i:Imm}{L:SH}{e:TypeId}{sz n:Nat}{xs:List Value}(h:E6 P g args i L fun v' _ L'=>∃O,J2 e v' sz n xs O∧L'=O++L):
 E6 P g args i L fun v' i' L'=>Sl i' v' sz n xs∧L'=L:=
 h.state fun v i' L' w _ hs ⟨O,hO,hL⟩=>by
  subst hL;obtain⟨i'',h1,h2,h3⟩:=hO.freeze hs;exact⟨i'',L,h1,h2,h3,rfl⟩
end Go.Eng
namespace Go.Eng
open Go
theorem O8{P:Program}{T:F7}(hT:T.ok P){g:FuncId}{fn:Func}{c:Code}{args:List Value}{i:Imm}{L:SH}{G3:Value→Imm→SH→Prop}{n a t:Nat}
 (hf:P.funcs[g]?=some fn) (hb:fn.body=some c) (hn:fn.ntmps=n) (hl:args.length≤n) (hres:fn.results=#[.cell a t])
 (h:CS P n c (A6g 0 args) i L (A6k fun f i' L'=>∃b off cs t' fz v,ev n f (.tmp a)=.pointer (some ⟨b,off,none⟩)∧Has i' L' b (.cells (E9d cs) t' fz)∧ldV T t off cs=some v∧G3 v i' L')):E6 P g args i L G3:=
 E6.body hf hb hn hl _ (fun f i' L' w hs ⟨b,off,cs,t',fz,v,h1,h2,h3,h4⟩=>by
  have h5:=A7q hT (h2.block hs) h3;have h6:(loadVar t ⟨b,off,none⟩).run P w=.ok v w:=by simpa [Instr.loadAt,Instr.sureAddr] using h5
  refine⟨v,?_,h4⟩;simp only[results,hres];have h8:(ofF n f).tmps[a]?.getD undef=.pointer (some ⟨b,off,none⟩):=by rw[evt];exact h1
  simp[h8,asAddr,h6]) h
theorem A3h{P:Program}{T:F7}(hT:T.ok P){g:FuncId}{fn:Func}{c:Code}{args:List Value}{i:Imm}{L:SH}{G3:Value→Imm→SH→Prop}{n a t r:Nat}
 (hf:P.funcs[g]?=some fn) (hb:fn.body=some c) (hn:fn.ntmps=n) (hl:args.length≤n) (hres:fn.results=#[.cell a t,.tmp r])
 (h:CS P n c (A6g 0 args) i L (A6k fun f i' L'=>∃b off cs t' fz v,ev n f (.tmp a)=.pointer (some ⟨b,off,none⟩)∧Has i' L' b (.cells (E9d cs) t' fz)∧ldV T t off cs=some v∧G3 (.tuple #[v,ev n f (.tmp r)]) i' L')):E6 P g args i L G3:=
 E6.body hf hb hn hl _ (fun f i' L' w hs ⟨b,off,cs,t',fz,v,h1,h2,h3,h4⟩=>by
  have h5:=A7q hT (h2.block hs) h3;have h6:(loadVar t ⟨b,off,none⟩).run P w=.ok v w:=by simpa [Instr.loadAt,Instr.sureAddr] using h5
  refine⟨_,?_,h4⟩;simp only[results,hres];have h8:(ofF n f).tmps[a]?.getD undef=.pointer (some ⟨b,off,none⟩):=by rw[evt];exact h1
  have h9:=evt n f r;simp[h8,asAddr,h6,h9]) h
end Go.Eng
namespace Go.Eng
theorem Has.mem{i:Imm}{L:SH}{b:Nat}{o:Obj}(h:(b,o)∈L):Has i L b o:=Or.inr h
end Go.Eng
namespace Go.Eng
open Go
section
variable{P:Program}{all:List Oper}{n:Nat}{r:List Oper}{f:Fr}{i:Imm}{L:SH}{K:Fr→Imm→SH→Prop}{dst:Option Nat}{ty:TypeId}{pos:String}{B4:Array Edge}{gd:Option (Nat×Bool)}{T:F7}
theorem D7g(hT:T.ok P){t e sz bytes m:Nat}{k k':IntKind}{zs:List Value}{x y:Operand}(hg:P9 n f all ⟨dst,.makeSlice t x y,ty,pos,B4,gd⟩=true)(hx:ev n f x=.int k (m:Int))(hy:ev n f y=.int k' (m:Int))
 (hte:∃d,D6 T t=some d∧d.desc=.slice e) (hee:∃d,D6 T e=some d∧d.size=sz∧d.bytes=bytes∧d.zero=zs) (hsz:0<sz) (hb:bytes*m≤140737488355328) (hm:m≤9223372036854775807)
 (h:∀b cs,cs.length=m*sz→(∀j,j<m*sz→cs[j]?=zs[j % sz]?)→RS P all n r (F3 f dst (.slice (some ⟨b,0,none⟩) m m)) i ((b,.cells (E9d cs) e (0,0))::L) K):RS P all n (⟨dst,.makeSlice t x y,ty,pos,B4,gd⟩::r) f i L K:=by
 refine K5 hg (F5 fun w hw=>?_);obtain⟨d1,ht,hd⟩:=hte;obtain⟨d2,he,hes,heb,hez⟩:=hee;have hu1:=(B6 hT ht).und;rw[hd] at hu1;obtain⟨_,hzl,ti,z,hi,hs,hbb,hz,hzc⟩:=B6 hT he;rw[hes] at hs hzl;rw[heb] at hbb;have hr:=run_make (P:=P) w t e ti z hu1 hi hz k k' m m (by omega) (by omega) (by rw[hbb];omega) (by omega);rw[Int.toNat_natCast,hs] at hr;refine⟨.slice (some ⟨w.heap.size,0,none⟩) m m,w.alloc (.cells (madeCells z.cells (m*sz)) e (0,0)),i,(w.heap.size,.cells (madeCells z.cells (m*sz)) e (0,0))::L,?_,Imm.le.refl i,St.push hw rfl rfl rfl rfl,?_⟩
 ·simp only[execOp];rw[hx,hy,G8 _ _ _ _ _ hr];rfl
 ·have:=h w.heap.size (madeCells z.cells (m*sz)).toList (by simp[size_madeCells]) (fun j hj=>by
   have hzz:0<z.cells.size:=by rw[hzc,List.size_toArray,hzl];exact hsz
   have hlt:j % sz<zs.length:=by rw[←hez,hzl];exact Nat.mod_lt _ hsz
   have hzl':zs.length=sz:=by rw[←hez];exact hzl
   unfold madeCells;rw[Array.getElem?_toList,Array.getElem?_map,Array.getElem?_range,if_pos hj,hzc,F1q];simp only[List.size_toArray,hez,hzl'];rw[getElem!_pos _ _ (by simpa using hlt),E9v hlt];rfl)
  rw[Array.toArray_toList] at this;exact this
end
end Go.Eng
namespace Go.Eng
open Go
section
variable{P:Program}{n:Nat}{f:Fr}{dst:Option Nat}{ty t t2:TypeId}{pos:String}{B4:Array Edge}{gd:Option (Nat×Bool)}{x y:Operand}{p q:Bool}
theorem A5n{P:Program}{t:TypeId}{p q:Bool}(h:P.underlying t=some .bool)(d:Nat)(w:World):(Op.equalIn (d+1) t (.bool p) (.bool q)).run P w=.ok (p==q) w:=by
 simp[Op.equalIn,run_underlying h]
theorem A3b{P:Program}{t:TypeId}{p q:Bool}(h:P.underlying t=some .bool)(w:World):(Op.equal t (.bool p) (.bool q)).run P w=.ok (p==q) w:=
 A5n h _ w
theorem PV.bneq{T:F7}(hT:T.ok P)(ht:∃d,D6 T t=some d∧d.desc=.bool)(hx:ev n f x=.bool p)(hy:ev n f y=.bool q):PV P n f ⟨dst,.binOp .neq t x y t2,ty,pos,B4,gd⟩ (.bool (!(p==q))):=by
 obtain⟨d,h1,h2⟩:=ht;have h3:=(B6 hT h1).und;rw[h2] at h3;unfold PV;intro w;simp[execOp,hx,hy,eqGuard,binOp,A3b h3,Result.andThen]
theorem B5p{T:F7}(hT:T.ok P)(ht:∃d,D6 T t=some d∧d.desc=.bool)(hx:ev n f x=.bool p)(hy:ev n f y=.bool q):PV P n f ⟨dst,.binOp .eql t x y t2,ty,pos,B4,gd⟩ (.bool (p==q)):=by
 obtain⟨d,h1,h2⟩:=ht;have h3:=(B6 hT h1).und;rw[h2] at h3;unfold PV;intro w;simp[execOp,hx,hy,eqGuard,binOp,A3b h3,Result.andThen]
end
abbrev ME:=Int×Value×Nat
def ents(es:List ME):Array MapEntry:=(es.map fun e=>(⟨.int .i64 e.1,e.2.1,e.2.2⟩:MapEntry)).toArray
def A1g(a:Int):List ME→Nat→Option (Nat×Value)
 |[],_=>none
 |e::es,i=>if a=e.1 then some (i,e.2.1) else A1g a es (i+1)
theorem B3y(kk:IntKind)(a:Int):∀(es:List ME)(i:Nat),Instr.findNow (.int kk) (.int .i64 a) (es.map fun e=>(⟨.int .i64 e.1,e.2.1,e.2.2⟩:MapEntry)) i=some (A1g a es i)
 |[],_=>rfl
 |e::es,i=>by
  have ih:=B3y kk a es (i+1);simp only[F0w,Instr.findNow,Instr.sameNow,A1g];by_cases h:a=e.1
  ·simp[h]
  ·have hb:(a==e.1)=false:=by simpa using h
   simp only[hb,if_neg h,if_true];exact ih
section
variable{P:Program}{n:Nat}{f:Fr}{i:Imm}{L:SH}{K:Value→Imm→SH→Prop}{dst:Option Nat}{ty:TypeId}{pos:String}{B4:Array Edge}{gd:Option (Nat×Bool)}{T:F7}
theorem B2x{w:World}{kt:TypeId}{kk:IntKind}(hd:P.underlying kt=some (.int kk))(a:Int)(e:Bool)(n:Nat):(Instr.checkKey e (n+1) kt (.int .i64 a)).run P w=.ok () w:=by
 simp[Instr.checkKey,run_underlying hd]
theorem B4x{w:World}{kt:TypeId}{kk:IntKind}(hd:P.underlying kt=some (.int kk))(a:Int)(es:List ME):(Instr.findKey kt (.int .i64 a) (ents es).toList).run P w=.ok (A1g a es 0) w:=by
 simp[Instr.findKey,run_underlying hd,ents,B3y]
theorem M9{w:World}{r:Nat}{es:Array MapEntry}{c:Nat}(hb:w.heap[r]?=some (.map es c)):(getObj r).run P w=.ok (.map es c) w:=by
 simp[getObj,Sem.run,hb]
theorem A1t{w:World}{r:Nat}{es:Array MapEntry}{c:Nat}(o':Obj)(hb:w.heap[r]?=some (.map es c)):(setObj r o').run P w=.ok () {w with heap:=w.heap.setIfInBounds r o'}:=by
 simp[setObj,Sem.run,hb]
theorem B4h{t:TypeId}(h:∀b,K (.map (some b)) i ((b,.map (ents []) 0)::L)):P3 P n ⟨dst,.makeMap t none,ty,pos,B4,gd⟩ f i L K:=by
 refine F5 fun w hw=>?_
 refine⟨.map (some w.heap.size),{w with heap:=w.heap.push (.map #[] 0)},i,_,?_,Imm.le.refl i,hw.push rfl rfl rfl rfl,h _⟩;simp[execOp,Instr.makeMap,newObj];rfl
end
section
variable{P:Program}{all:List Oper}{n:Nat}{r:List Oper}{f:Fr}{i:Imm}{L:SH}{K:Fr→Imm→SH→Prop}{dst:Option Nat}{ty:TypeId}{pos:String}{B4:Array Edge}{gd:Option (Nat×Bool)}{T:F7}
end
theorem B1f{P:Program}{T:F7}(hT:T.ok P){g:FuncId}{fn:Func}{c:Code}{args:List Value}{i:Imm}{L:SH}{G3:Value→Imm→SH→Prop}{n a t r s:Nat}
 (hf:P.funcs[g]?=some fn) (hb:fn.body=some c) (hn:fn.ntmps=n) (hl:args.length≤n) (hres:fn.results=#[.cell a t,.tmp r,.tmp s])
 (h:CS P n c (A6g 0 args) i L (A6k fun f i' L'=>∃b off cs t' fz v,ev n f (.tmp a)=.pointer (some ⟨b,off,none⟩)∧Has i' L' b (.cells (E9d cs) t' fz)∧ldV T t off cs=some v∧G3 (.tuple #[v,ev n f (.tmp r),ev n f (.tmp s)]) i' L')):E6 P g args i L G3:=
 E6.body hf hb hn hl _ (fun f i' L' w hs ⟨b,off,cs,t',fz,v,h1,h2,h3,h4⟩=>by
  have h5:=A7q hT (h2.block hs) h3;have h6:(loadVar t ⟨b,off,none⟩).run P w=.ok v w:=by simpa [Instr.loadAt,Instr.sureAddr] using h5
  refine⟨_,?_,h4⟩;simp only[results,hres];have h8:(ofF n f).tmps[a]?.getD undef=.pointer (some ⟨b,off,none⟩):=by rw[evt];exact h1
  have h9:=evt n f r;have h10:=evt n f s;simp[h8,asAddr,h6,h9,h10]) h
theorem E6.ctx{P:Program}{g:FuncId}{args:List Value}{i:Imm}(A:SH){B R:SH}{X:Type}{φ:X→Value→Imm→Prop}{B':X→SH}
 (h:E6 P g args i (B++(A++R)) fun v i' L'=>∃x,φ x v i'∧L'=B' x++(A++R)):E6 P g args i (A++(B++R)) fun v i' L'=>∃x,φ x v i'∧L'=A++(B' x++R):=by
 refine E6.state (E6.frame (E9x A B R) h) ?_;rintro v i' L' w _ hs ⟨x,hx,rfl⟩;exact⟨i',_,Imm.le.refl i',hs.perm (E9x _ _ _),x,hx,rfl⟩
end Go.Eng
namespace Go.Eng
open Go
theorem K9{P:Program}{n:Nat}{x y:Code}{f:Fr}{i:Imm}{L:SH}{Q:Ex→Fr→Imm→SH→Prop}(slots:List Nat)(I:List Value→Imm→SH→Prop)
 (h1:CS P n x f i L (Q5 (fun f' i' L'=>I (slots.map f') i' L') Q)) (h2:∀g vs i' L',i.le i'→I vs i' L'→CS P n y (E1p g slots vs) i' L' Q):CS P n (.seq x y) f i L Q:=by
 refine E4u (CS.mono h1 fun e f' i' L' hi q=>?_);unfold Q5 at*;cases e with
 |normal=>
  have:=h2 f' _ i' L' hi q
  rw[C8d] at this;exact this
 |exit id=>exact q
 |ret=>exact q
end Go.Eng
namespace Go.Eng
open Go
section
variable{P:Program}{n:Nat}{f:Fr}{i:Imm}{L:SH}{dst:Option Nat}{ty:TypeId}{pos:String}{B4:Array Edge}{gd:Option (Nat×Bool)}{T:F7}{v:Value}
theorem H4{op:Op}(h:PV P n f ⟨dst,op,ty,pos,B4,gd⟩ v):P3 P n ⟨dst,op,ty,pos,B4,gd⟩ f i L fun u _ L''=>L''=L∧u=v:=by
 unfold PV at h;exact M4 (fun w _=>h w) ⟨rfl,rfl⟩
theorem C3d{op:Op}(h:LV P n f i L ⟨dst,op,ty,pos,B4,gd⟩ v):P3 P n ⟨dst,op,ty,pos,B4,gd⟩ f i L fun u _ L''=>L''=L∧u=v:=by
 unfold LV at h;exact M4 (fun w hw=>h w hw) ⟨rfl,rfl⟩
end
theorem A2u{p q:ByteArray}(h:p.toList=q.toList):p=q:=by
 rw[ByteArray.toList_eq,ByteArray.toList_eq] at h;exact Go.WideShapes.bytes_inj h
section
variable{P:Program}{all:List Oper}{n:Nat}{r:List Oper}{f:Fr}{i:Imm}{L:SH}{K:Fr→Imm→SH→Prop}{dst:Option Nat}{ty:TypeId}{pos:String}{B4:Array Edge}{gd:Option (Nat×Bool)}{T:F7}{t t2:Nat}{x y:Operand}
theorem QS.pvN{K:Fr→Prop}{p:Prop}[Decidable p]{op:Op}(h:PV P n f ⟨dst,op,ty,pos,B4,gd⟩ (.bool (!decide p)))(hg:P9 n f all ⟨dst,op,ty,pos,B4,gd⟩=true)
 (hT:p→QS P all n r (F3 f dst (.bool false)) i L K) (hF:¬p→QS P all n r (F3 f dst (.bool true)) i L K):QS P all n (⟨dst,op,ty,pos,B4,gd⟩::r) f i L K:=by
 refine D3 h hg ?_;by_cases hp:p
 ·rw[decide_eq_true hp];exact hT hp
 ·rw[decide_eq_false hp];exact hF hp
theorem B8c{K:Fr→Prop}{p:Prop}[Decidable p]{g:FuncId}{as:Array Operand}{ts:Array TypeId}{vs:List Value}(h:E6 P g vs i L fun v _ L'=>v=.bool (decide p)∧L'=L)(hg:P9 n f all ⟨dst,.call ⟨.value (.func g),as,ts⟩,ty,pos,B4,gd⟩=true)(hf:Z2 P g=true)
 (ha:as.toList.map (ev n f)=vs) (hT:p→QS P all n r (F3 f dst (.bool true)) i L K) (hF:¬p→QS P all n r (F3 f dst (.bool false)) i L K):QS P all n (⟨dst,.call ⟨.value (.func g),as,ts⟩,ty,pos,B4,gd⟩::r) f i L K:=by
 refine D7j h hg hf ha ?_;by_cases hp:p
 ·rw[decide_eq_true hp];exact hT hp
 ·rw[decide_eq_false hp];exact hF hp
end
theorem Sl.at{i:Imm}{v:Value}{sz n:Nat}{xs:List Value}(h:Sl i v sz n xs){k:Nat}(hk:k<n)(hsz:0<sz):
 ∃b o cs t fz cap,v=.slice (some ⟨b,o,none⟩) n cap∧i.blk b=some (.cells (E9d cs) t fz)∧∀d,d<sz→cs[o+((k:Nat):Int).toNat*sz+d]?=xs[k*sz+d]?:=by
 obtain⟨ao,cap,h1,h2,h3⟩:=h
 have hle:k*sz+sz≤n*sz:=by
  have:=Nat.mul_le_mul_right sz (show k+1≤n from hk)
  rw[F1f,Nat.one_mul] at this;exact this
 rcases h3 with h3|⟨b,o,cs,t,fz,h4,h5,h6⟩
 ·subst h3;simp at h2;omega
 ·refine⟨b,o,cs,t,fz,cap,by rw[h1,h4],h5,fun d hd=>?_⟩;rw[Int.toNat_natCast,Nat.add_assoc];exact h6 _ (by rw[h2];omega)
end Go.Eng
namespace Go.Eng
open Go
def scOk:TypeDesc→Value→Value→Bool
 | .string,.string _,.string _=>true
 | .int _,.int k _,.int k' _=>decide (k=k')
 | .bool,.bool _,.bool _=>true
 |_,_,_=>false
def D1u:Value→Value→Bool
 | .string a,.string b=>decide (a=b)
 | .int _ a,.int _ b=>decide (a=b)
 | .bool a,.bool b=>a==b
 |_,_=>false
def A3k(T:F7):List Field→Nat→List Value→List Value→Bool
 |[],_,[],[]=>true
 |f::fs,k,x::xs,y::ys=> !(f.name== "_")&&E9p f.offset k&&(match D6 T f.type with|some e=> !K4 e.desc&&scOk e.desc x y|none=>false)&&A3k T fs (k+1) xs ys
 |_,_,_,_=>false
def B3r:List Value→List Value→Bool
 |x::xs,y::ys=>D1u x y&&B3r xs ys
 |_,_=>true
def stOk(T:F7)(t:Nat)(xs ys:List Value):Bool:=
 match D6 T t with
 |some ⟨.struct fs,_,_,_⟩=>A3k T fs.toList 0 xs ys
 |_=>false
section
variable{P:Program}{T:F7}
theorem E5a{t:TypeId}{d:TypeDesc}{x y:Value}(h:P.underlying t=some d)(hs:scOk d x y=true)(n:Nat)(w:World):(Op.equalIn (n+1) t x y).run P w=.ok (D1u x y) w:=by
 unfold scOk at hs;split at hs
 ·rename_i a b
  have:(a==b)=decide (a=b):=by
   rw[beq_toListBytes];by_cases e:a=b
   ·simp[e]
   ·rw[decide_eq_false e]
    have:a.toList≠b.toList:=fun h=>e (A2u h)
    simpa using this
  simp[Op.equalIn,run_underlying h,D1u,this]
 ·rename_i k a k' b;have hk:k=k':=by simpa using hs
  subst hk
  have:(a==b)=decide (a=b):=by
   by_cases e:a=b
   ·simp[e]
   ·rw[decide_eq_false e];simpa using e
  simp[Op.equalIn,run_underlying h,D1u,this]
 ·simp[Op.equalIn,run_underlying h,D1u]
 ·cases hs
theorem B1c(hT:T.ok P)(n:Nat)(w:World):∀(fs:List Field)(k:Nat)(xs ys:List Value)(XS YS:List Value),A3k T fs k xs ys=true→XS.drop k=xs→YS.drop k=ys→
 (Op.eqFields (n+1) XS.toArray YS.toArray fs).run P w=.ok (B3r xs ys) w
 |[],_,xs,ys,XS,YS,h,_,_=>by
  cases xs with
  |nil=>simp[Op.eqFields,B3r]
  |cons _ _=>cases ys<;>cases h
 |f::fs,k,xs,ys,XS,YS,h,hx,hy=>by
  cases xs with
  |nil=>cases h
  |cons x xs=>
   cases ys with
   |nil=>cases h
   |cons y ys=>
    simp only[A3k,E9j] at h;obtain⟨⟨⟨h1,h2⟩,h3⟩,h4⟩:=h;have hk:=E9m h2;split at h3
    ·rename_i e he;simp only[E9j,Bool.not_eq_true'] at h3;have hu:=(B6 hT he).und
     have gx:XS.toArray[k]?=some x:=by
      have:=congrArg (·[0]?) hx
      simpa using this
     have gy:YS.toArray[k]?=some y:=by
      have:=congrArg (·[0]?) hy
      simpa using this
     have hx':XS.drop (k+1)=xs:=by rw[←F1u,hx];rfl
     have hy':YS.drop (k+1)=ys:=by rw[←F1u,hy];rfl
     have ih:=B1c hT n w fs (k+1) xs ys XS YS h4 hx' hy'
     have pa:∀(A:Array Value)(a:Value),A[k]?=some a→(part f.type A f.offset).run P w=.ok a w:=by
      intro A a hA;simp[part,U5 hu,h3.1,hk,hA]
     have he':=E5a hu h3.2 n w
     have hn:f.name≠ "_" :=by
      intro e0;rw[e0] at h1;exact absurd h1 (by decide)
     simp only[Op.eqFields,if_pos hn];rw[G8 _ _ _ _ _ (pa _ _ gx),G8 _ _ _ _ _ (pa _ _ gy),G8 _ _ _ _ _ he'];simp only[B3r];cases D1u x y with
     |false=>simp
     |true=>simpa using ih
    ·cases h3
theorem E4z(hT:T.ok P){t:TypeId}{xs ys:List Value}(h:stOk T t xs ys=true)(hp:P.stoodInHeld t=false)(w:World):(Op.equal t (.agg xs.toArray) (.agg ys.toArray)).run P w=.ok (B3r xs ys) w:=by
 unfold stOk at h;split at h
 ·rename_i fs _ _ _ he;have hu:=(B6 hT he).und;have hf:P.fieldsOf t=fs:=by unfold Program.fieldsOf;rw[hu]
  have:=run_equalIn_struct (P:=P) w 9999 t xs.toArray ys.toArray (by rw[hf];exact hu) hp
  rw[hf] at this;unfold Op.equal;rw[show Op.maxDepth=9999+1 from rfl,this];exact B1c hT 9998 w fs.toList 0 xs ys xs ys h rfl rfl
 ·cases h
variable{n:Nat}{f:Fr}{dst:Option Nat}{ty t t2:TypeId}{pos:String}{B4:Array Edge}{gd:Option (Nat×Bool)}{x y:Operand}{xs ys:List Value}
theorem C9t(hT:T.ok P)(hp:P.stoodInHeld t=false)(hq:P.eqGuardType P.depth t=false)(hx:ev n f x=.agg xs.toArray)(hy:ev n f y=.agg ys.toArray)(h:stOk T t xs ys=true):PV P n f ⟨dst,.binOp .neq t x y t2,ty,pos,B4,gd⟩ (.bool (!B3r xs ys)):=by
 unfold PV;intro w;simp[execOp,hx,hy,eqGuard,binOp,E4z hT h hp,Result.andThen,hq]
end
section
variable{P:Program}{all:List Oper}{n:Nat}{r:List Oper}{f:Fr}{i:Imm}{L:SH}{dst:Option Nat}{ty:TypeId}{pos:String}{B4:Array Edge}{gd:Option (Nat×Bool)}{T:F7}
theorem A8f{o:Oper}{K K':Value→Imm→SH→Prop}(h:P3 P n o f i L K)(hk:∀v i' L' w,i.le i'→St i' L' w→K v i' L'→∃i'' L'',i'.le i''∧St i'' L'' w∧K' v i'' L''):P3 P n o f i L K':=by
 unfold P3 at*;intro w hw;exact(h w hw).mono fun v w' ⟨i',L',h1,h2,h3⟩=>let⟨i'',L'',h4,h5,h6⟩:=hk v i' L' w' h1 h2 h3;⟨i'',L'',h1.trans h4,h5,h6⟩
theorem H9(hT:T.ok P){t len e sz:Nat}{parts:Array (Nat×Operand)}{cs:List Value}(h:bsl T n f t len parts.toList=some (e,cs))(hl:cs.length=len*sz):
 P3 P n ⟨dst,.buildSlice t len parts,ty,pos,B4,gd⟩ f i L fun v i' L'=>L'=L∧∃b,v=.slice (some ⟨b,0,none⟩) len len∧Sl i' v sz len cs:=by
 refine A8f (A2p (K:=fun v i' L'=>∃b,v=.slice (some ⟨b,0,none⟩) len len∧L'=(b,.cells cs.toArray e (0,0))::L) hT h fun b=>⟨b,rfl,rfl⟩) ?_;rintro v i' L' w _ hs ⟨b,rfl,rfl⟩;obtain⟨h3,h4⟩:=St.freeze hs;exact⟨_,L,h3,h4,rfl,b,rfl,some ⟨b,0,none⟩,len,rfl,hl,.inr ⟨b,0,cs,e,(0,0),rfl,by simp[Imm.add],fun j _=>by rw[F1b]⟩⟩
theorem A8{K:Fr→Imm→SH→Prop}(hT:T.ok P)(sz:Nat){t len e:Nat}{parts:Array (Nat×Operand)}{cs:List Value}(hg:P9 n f all ⟨dst,.buildSlice t len parts,ty,pos,B4,gd⟩=true)(h:bsl T n f t len parts.toList=some (e,cs))(hl:cs.length=len*sz)
 (k:∀b i',i.le i'→Sl i' (.slice (some ⟨b,0,none⟩) len len) sz len cs→RS P all n r (F3 f dst (.slice (some ⟨b,0,none⟩) len len)) i' L K):RS P all n (⟨dst,.buildSlice t len parts,ty,pos,B4,gd⟩::r) f i L K:=by
 refine K5 hg (P3.mono (H9 (sz:=sz) hT h hl) ?_);rintro v i' L' hi ⟨rfl,b,rfl,hs⟩;exact k b i' hi hs
end
section
variable{P:Program}{all:List Oper}{n:Nat}{i0:Imm}{Ls:List SH}{lc:List Nat}{Kont:Kap→Prop}{f:Fr}{F:List (Nat×(Imm→Value→Prop))}{r:List Nat}{k:Nat}
end
end Go.Eng
namespace Go.Eng
open Go
theorem F6{P:Program}{m:Nat}{c:Code}{f:Fr}{i:Imm}{L L0:SH}{Q:Ex→Fr→Imm→SH→Prop}{e:TypeId}{v:Value}{sz n:Nat}{xs:List Value}{O:SH}(hO:J2 e v sz n xs O)(hL:L.Perm (O++L0))
 (h:∀i',i.le i'→Sl i' v sz n xs→CS P m c f i' L0 Q):CS P m c f i L Q:=
 A4b fun _ hw=>let⟨i',h1,h2,h3⟩:=hO.freeze (hw.perm hL);⟨i',L0,h1,h2,h i' h1 h3⟩
def arEl(T:F7)(t:Nat):Option Nat:=
 match D6 T t with
 |some ⟨.array l e,_,_,_⟩=>match D6 T e with
  |some x=>bif E9p x.size 1&& !K4 x.desc then some l else none
  |none=>none
 |_=>none
section
variable{P:Program}{n:Nat}{f:Fr}{dst:Option Nat}{ty:TypeId}{pos:String}{B4:Array Edge}{gd:Option (Nat×Bool)}{v:Value}{T:F7}
theorem E0d(hT:T.ok P){t l:Nat}{x y:Operand}{cs:List Value}{j:Int}{k:IntKind}(hx:ev n f x=.agg cs.toArray)(hy:ev n f y=.int k j)(hs:arEl T t=some l)(hj:0≤j∧j<l)(hv:cs[j.toNat]?=some v):
 PV P n f ⟨dst,.index t x y,ty,pos,B4,gd⟩ v:=by
 unfold PV;intro w;unfold arEl at hs;split at hs
 ·rename_i l' e _ _ _ he;split at hs
  ·rename_i x' hx';cases hb:(E9p x'.size 1&& !K4 x'.desc) with
   |false=>rw[hb] at hs;cases hs
   |true=>
    rw[hb] at hs;cases hs;simp only[E9j,Bool.not_eq_true'] at hb;have h1:=E9m hb.1;have hu:=(B6 hT he).und;obtain⟨h2,_,ti,z,hi,hsz,_⟩:=B6 hT hx';simp[execOp,hx,hy,Instr.index,asIntOf,run_underlying hu,hj,sizeOf,E0 hi,hsz,h1,part,U5 h2,hb.2,hv]
  ·cases hs
 ·cases hs
theorem A4h(hT:T.ok P){t:Nat}{x y:Operand}{s:ByteArray}{j:Int}{k:IntKind}{b:UInt8}(hx:ev n f x=.string s)(hy:ev n f y=.int k j)(ht:R5 T P1 t=true)(hj:0≤j)(hv:s[j.toNat]?=some b):
 PV P n f ⟨dst,.index t x y,ty,pos,B4,gd⟩ (.int .u8 b.toNat):=by
 unfold PV;intro w;have hu:=B5d hT ht;simp[execOp,hx,hy,Instr.index,asIntOf,run_underlying hu,hj,hv]
end
end Go.Eng
namespace Go.Eng
open Go
theorem A1b{P:Program}{all:List Oper}{m:Nat}{r:List Oper}{f:Fr}{i:Imm}{L L0:SH}{K:Fr→Imm→SH→Prop}{e:TypeId}{v:Value}{sz n:Nat}{xs:List Value}{O:SH}(hO:J2 e v sz n xs O)(hL:L.Perm (O++L0))
 (h:∀i',i.le i'→Sl i' v sz n xs→RS P all m r f i' L0 K):RS P all m r f i L K:=
 A2g fun _ hw=>let⟨i',h1,h2,h3⟩:=hO.freeze (hw.perm hL);⟨i',L0,h1,h2,h i' h1 h3⟩
def X5(s:Nat→Bool)(j:Nat):Nat→Bool:=fun k=>bif E9p k j then true else s k
theorem U4(s:Nat→Bool)(j:Nat):X5 s j j=true:=by simp[X5]
theorem S9(s:Nat→Bool){j k:Nat}(h:k≠j):X5 s j k=s k:=by
 have:E9p k j=false:=by
  cases hb:E9p k j
  ·rfl
  ·exact absurd (E9m hb) h
 simp[X5,this]
section
variable{P:Program}{all:List Oper}{n:Nat}
end
def memB(a:ByteArray)(l:List ByteArray):Bool:=l.any fun x=>decide (a=x)
theorem E5p{a:ByteArray}{l:List ByteArray}:memB a l=true↔a∈l:=by
 unfold memB;rw[List.any_eq_true];constructor
 ·rintro⟨x,h1,h2⟩
  rw[of_decide_eq_true h2];exact h1
 ·intro h;exact⟨a,h,decide_eq_true rfl⟩
instance memDec (a:ByteArray) (l:List ByteArray):Decidable (a∈l):=decidable_of_iff (memB a l=true) E5p
theorem A7v(a b:ByteArray):(a==b)=decide (a=b):=by
 rw[beq_toListBytes];by_cases e:a=b
 ·simp[e]
 ·rw[decide_eq_false e]
  have:a.toList≠b.toList:=fun h=>e (A2u h)
  simpa using this
section
variable{P:Program}{n:Nat}{f:Fr}{i:Imm}{L:SH}{K:Value→Imm→SH→Prop}{dst:Option Nat}{ty:TypeId}{pos:String}{B4:Array Edge}{gd:Option (Nat×Bool)}{T:F7}
theorem B2w{w:World}{kt:TypeId}(hd:P.underlying kt=some .string)(a:ByteArray)(e:Bool)(n:Nat):(Instr.checkKey e (n+1) kt (.string a)).run P w=.ok () w:=by
 simp[Instr.checkKey,run_underlying hd]
end
section
variable{P:Program}{all:List Oper}{n:Nat}{r:List Oper}{f:Fr}{i:Imm}{L:SH}{K:Fr→Imm→SH→Prop}{dst:Option Nat}{ty:TypeId}{pos:String}{B4:Array Edge}{gd:Option (Nat×Bool)}{T:F7}
end
section
variable{P:Program}{n:Nat}{f:Fr}{i:Imm}{L:SH}{dst:Option Nat}{ty:TypeId}{pos:String}{B4:Array Edge}{gd:Option (Nat×Bool)}{t t2:Nat}{x y:Operand}{T:F7}
theorem PV.slss{p q:ByteArray}(hx:ev n f x=.string p)(hy:ev n f y=.string q):PV P n f ⟨dst,.binOp .lss t x y t2,ty,pos,B4,gd⟩ (.bool (decide (Op.bytesLess p.toList q.toList=true))):=by
 unfold PV;intro w;simp[execOp,hx,hy,eqGuard,binOp,Op.stringOp]
def bytesOf:List Value→ByteArray→Option ByteArray
 |[],s=>some s
 | .int .u8 k::l,s=>bytesOf l (s.push (F0d k.toNat))
 |_::_,_=>none
theorem B1d:∀(l:List Value)(s:ByteArray),(∀c∈l,∃k,c=.int .u8 k)→∃r,bytesOf l s=some r∧r.size=s.size+l.length
 |[],s,_=>⟨s,rfl,rfl⟩
 |c::l,s,h=>by
  obtain⟨k,rfl⟩:=h c (by simp);obtain⟨r,h1,h2⟩:=B1d l (s.push (F0d k.toNat)) fun c hc=>h c (by simp[hc])
  exact⟨r,h1,by rw[h2,ByteArray.size_push];simp;omega⟩
theorem B2f(w:World)(g:Value→ByteArray→Sem (ForInStep ByteArray))(hg:∀k s,g (.int .u8 k) s=pure (ForInStep.yield (s.push (F0d k.toNat)))):∀(l:List Value)(s r:ByteArray),bytesOf l s=some r→(forIn (m:=Sem) l s g).run P w=.ok r w
 |[],s,r,h=>by cases h;simp
 |c::l,s,r,h=>by
  unfold bytesOf at h;split at h
  ·rename_i hq;cases hq
  ·rename_i k l' s' hq;cases hq;rw[List.forIn_cons,hg];simp only[Sem.run_bind,Sem.run_pure,Result.andThen_ok];exact B2f w g hg l _ r h
  ·cases h
end
def B1w(P:Program)(l:Nat)(vs:List Value)(i:Imm)(L:SH)(G3:Bool→Imm→SH→Prop):Prop:=
 ∀w,St i L w→YieldAt Fence.wide 0 P l vs.toArray w fun e w'=>∃b i' L',e=.returned (.bool b)∧i.le i'∧St i' L' w'∧G3 b i' L'
section
variable{P:Program}{all:List Oper}{n:Nat}{r:List Oper}{f:Fr}{i:Imm}{L:SH}{dst:Option Nat}{ty:TypeId}{pos:String}{B4:Array Edge}{gd:Option (Nat×Bool)}
theorem C1w{K:Value→Imm→SH→Prop}{l:Nat}{x:Operand}{as:Array Operand}{ts:Array TypeId}{vs:List Value}{G3:Bool→Imm→SH→Prop}(hx:ev n f x=.func (.yield l) #[] #[])(ha:as.toList.map (ev n f)=vs)(h:B1w P l vs i L G3)
 (k:∀b i' L',i.le i'→G3 b i' L'→K (.bool b) i' L'):P3 P n ⟨dst,.call ⟨.value x,as,ts⟩,ty,pos,B4,gd⟩ f i L K:=by
 unfold P3;intro w hw;obtain⟨fn,tmps,assign,body,hy,hr⟩:=h w hw;have h1:as.map (ev n f)=vs.toArray:=by rw[←ha];exact F1w (by simp)
 have h2:(execOp (ev n f) ⟨dst,.call ⟨.value x,as,ts⟩,ty,pos,B4,gd⟩).run P w=.ok (.round l fn tmps assign body) w:=by
  simp[execOp,resolve,h1,hx,Deferred.ofValue,invoke,hy]
 rw[h2];exact hr.mono fun e w' ⟨b,i',L',he,hi,hs,hp⟩=>⟨.bool b,he,i',L',hi,hs,k b i' L' hi hp⟩
theorem E7c{K:Fr→Imm→SH→Prop}{l:Nat}{x:Operand}{as:Array Operand}{ts:Array TypeId}{vs:List Value}{G3:Bool→Imm→SH→Prop}(h:B1w P l vs i L G3)(hg:P9 n f all ⟨dst,.call ⟨.value x,as,ts⟩,ty,pos,B4,gd⟩=true)
 (hx:ev n f x=.func (.yield l) #[] #[]) (ha:as.toList.map (ev n f)=vs) (k:∀b i' L',i.le i'→G3 b i' L'→RS P all n r (F3 f dst (.bool b)) i' L' K):
 RS P all n (⟨dst,.call ⟨.value x,as,ts⟩,ty,pos,B4,gd⟩::r) f i L K:=K5 hg (C1w hx ha h k)
end
def IterS(P:Program)(gf:FuncId)(caps:List Value)(dv:List (List Value))(i:Imm):Prop:=
 ∀i0,i.le i0→∀(l:Nat)(J:Nat→Imm→SH→Prop),
  (∀k d i' L' R,dv[k]?=some d→i0.le i'→J k i' L'→B1w P l d i' (L'++R) fun b i'' L''=>b=true∧∃L1,L''=L1++R∧J (k+1) i'' L1)→
  ∀L R,J 0 i0 L→E6 P gf (.func (.yield l) #[] #[]::caps) i0 (L++R) fun _ i'' L''=>∃L1,L''=L1++R∧J dv.length i'' L1
def B1m(f:Fr):List Nat→List Value→Fr
 |p::ps,v::vs=>B1m (upd f p v) ps vs
 |_,_=>f
theorem C3g(n:Nat)(ds:List Deferred):∀(ps:List Nat)(vs:List Value)(f:Fr),(ps.zip vs).foldl (fun tmps (t,a)=>tmps.setIfInBounds t a) (ofD n ds f).tmps=(ofD n ds (B1m f ps vs)).tmps
 |[],_,_=>rfl
 |_::_,[],_=>rfl
 |p::ps,v::vs,f=>by
  simp only[List.zip_cons_cons,List.foldl_cons,B1m]
  have:(ofD n ds f).tmps.setIfInBounds p v=(ofD n ds (upd f p v)).tmps:=congrArg Act.tmps (Y2 n ds f (some p) v)
  rw[this];exact C3g n ds ps vs _
def N7(fn:FuncId)(n:Nat)(f:Fr)(ps:Array Tmp)(assign body:Code)(dfr:Nat)(s:LoopState):Obj:=
 .loop {state:=s,pending:=none,fn,tmps:=(ofF n f).tmps,params:=ps,assign,body,defers:=dfr}
abbrev C0n(K:Fr→Imm→SH→Prop):Ex→Fr→Imm→SH→Prop:=Q5 K fun _ _ _ _=>False
theorem set_mid{α:Type}(A B:List α)(x y:α):(A++x::B).set A.length y=A++y::B:=by
 induction A with
 |nil=>rfl
 |cons a A ih=>simp[ih]
theorem get_mid{α:Type}(A B:List α)(x:α):(A++x::B)[A.length]?=some x:=by simp
theorem A1y{i:Imm}{A B:SH}{w:World}{b:Nat}{o o':Obj}(h:St i (A++(b,o)::B) w):w.heap[b]?=some o∧St i (A++(b,o')::B) (w.putObj b o'):=by
 have hb:w.heap[b]?=some o:=h.own (b,o) (by simp);refine⟨hb,?_⟩
 have:=h.put (w':=w.putObj b o') (o':=o') (get_mid A B (b,o)) rfl rfl rfl (fun c=>by
  by_cases hc:c=b
  ·subst hc;rw[if_pos rfl];exact World.putObj_heap_same (Array.getElem?_eq_some_iff.1 hb).1
  ·rw[if_neg hc,World.putObj_heap_other hc])
 rwa [set_mid] at this
section
variable{P:Program}{n:Nat}{f:Fr}{i:Imm}{L R:SH}
theorem B1w.round{l:Nat}{fn:FuncId}{ps:Array Tmp}{assign body:Code}{dfr:Nat}{d:List Value}{G3:Imm→SH→Prop}(hd:d.length=ps.size)
 (h:CS P n assign (B1m f ps.toList d) i (L++(l,N7 fn n f ps assign body dfr .ready)::R) (C0n fun f1 i1 L1=>∃L1',L1=L1'++(l,N7 fn n f ps assign body dfr .ready)::R∧
  CS P n body f1 i1 (L1'++(l,N7 fn n f ps assign body dfr .busy)::R) (C0n fun _ i2 L2=>∃L2',L2=L2'++(l,N7 fn n f ps assign body dfr .busy)::R∧G3 i2 L2'))):
 B1w P l d i (L++(l,N7 fn n f ps assign body dfr .ready)::R) fun b i' L'=>b=true∧∃L1,L'=L1++(l,N7 fn n f ps assign body dfr .ready)::R∧G3 i' L1:=by
 intro w hw;have hl:=(A1y (o':=N7 fn n f ps assign body dfr .ready) hw).1;refine⟨_,_,_,_,run_yield hl (by simpa using hd),roundIn_of_wpIn trivial ?_⟩
 have ht:((ps.zip d.toArray).foldl (fun tmps (t,a)=>tmps.setIfInBounds t a) (ofF n f).tmps)=(ofF n (B1m f ps.toList d)).tmps:=by
  rw[←C3g n [] ps.toList d f];simp only[←Array.foldl_toList,Array.toList_zip]
 have ht':({tmps:=(ps.zip d.toArray).foldl (fun tmps (t,a)=>tmps.setIfInBounds t a) (ofF n f).tmps,defers:=[]}:Act)=ofD n [] (B1m f ps.toList d):=by
  rw[ht];rfl
 refine Eq.mpr (congrArg (fun a=>assign.wpIn (Fence.wide.inRound l) 0 P _ a w) ht') ?_;refine h.use (.inr ⟨l,rfl⟩) [] w hw _ fun e f1 i1 L1 w1 hi1 hs1 q=>?_
 unfold C0n Q5 at q;cases e with
 |exit _=>exact q.elim
 |ret=>exact q.elim
 |normal=>
  obtain⟨L1',rfl,hb⟩:=q;obtain⟨hl1,hs2⟩:=A1y (o':=N7 fn n f ps assign body dfr .busy) hs1;refine⟨_,run_beginRound hl1 rfl,?_⟩;refine hb.use (.inr ⟨l,rfl⟩) [] _ hs2 _ fun e f2 i2 L2 w2 hi2 hs3 q=>?_
  unfold Q5 at q;cases e with
  |exit _=>exact q.elim
  |ret=>exact q.elim
  |normal=>
   obtain⟨L2',rfl,hp⟩:=q;obtain⟨hl2,hs4⟩:=A1y (o':=N7 fn n f ps assign body dfr .ready) hs3;exact⟨_,_,run_endRound none hl2,_,i2,_,rfl,hi1.trans hi2,hs4,rfl,L2',rfl,hp⟩
end
def A6e(r:Nat):Deferred:={target:=.collected r,args:=#[]}
def X6(r:Nat):Nat×Obj:=(r,.deferred (some []))
@[irreducible] def CX(P:Program)(n:Nat)(ds:List Deferred)(c:Code)(f:Fr)(i:Imm)(L:SH)(Q:List Deferred→Ex→Fr→Imm→SH→Prop):Prop:=
 ∀w,St i L w→∀Q':Exit→Act→World→Prop,(∀ds' e f' i' L' w',i.le i'→St i' L' w'→Q ds' e f' i' L'→Q' e.to (ofD n ds' f') w')→c.wpIn Fence.wide 0 P Q' (ofD n ds f) w
section
variable{P:Program}{n:Nat}{ds:List Deferred}{c x y:Code}{f:Fr}{i:Imm}{L:SH}{Q:List Deferred→Ex→Fr→Imm→SH→Prop}
theorem CX.use(h:CX P n ds c f i L Q)(w:World)(hw:St i L w)(R:Exit→Act→World→Prop)(hR:∀ds' e f' i' L' w',i.le i'→St i' L' w'→Q ds' e f' i' L'→R e.to (ofD n ds' f') w'):c.wpIn Fence.wide 0 P R (ofD n ds f) w:=by
 unfold CX at h;exact h w hw R hR
theorem CX.of(h:CS P n c f i L (Q ds)):CX P n ds c f i L Q:=by
 unfold CX;intro w hw R hR;exact h.use (.inl rfl) ds w hw R fun e f' i' L' w' hi hs q=>hR ds e f' i' L' w' hi hs q
theorem E4t(h:CX P n ds x f i L fun ds' e f' i' L'=>Q5 (fun f' i' L'=>CX P n ds' y f' i' L' Q) (Q ds') e f' i' L'):CX P n ds (.seq x y) f i L Q:=by
 unfold CX;intro w hw R hR;refine wpIn_seq (h.use w hw _ fun ds' e f' i' L' w' hi hs q=>?_);unfold Q5 at q;cases e with
 |normal=>
  simp only[Ex.to,Exit.then];simp only at q;exact q.use w' hs R fun ds'' e f'' i'' L'' w'' hi' hs' q'=>hR ds'' e f'' i'' L'' w'' (hi.trans hi') hs' q'
 |exit id=>exact hR ds' (.exit id) f' i' L' w' hi hs q
 |ret=>exact hR ds' .ret f' i' L' w' hi hs q
theorem C4m(h:CS P n x f i L (Q5 (fun f' i' L'=>CX P n ds y f' i' L' Q) (Q ds))):CX P n ds (.seq x y) f i L Q:=E4t (CX.of h)
theorem E8q{id:Nat}(h:CX P n ds x f i L fun ds' e f' i' L'=>A6f id (fun f' i' L'=>Q ds' .normal f' i' L') (Q ds') e f' i' L'):CX P n ds (.block id x) f i L Q:=by
 unfold CX;intro w hw R hR;refine wpIn_block (h.use w hw _ fun ds' e f' i' L' w' hi hs q=>?_);unfold A6f at q;cases e with
 |normal=>exact hR ds' .normal f' i' L' w' hi hs q
 |ret=>exact hR ds' .ret f' i' L' w' hi hs q
 |exit j=>
  simp only[Ex.to,Exit.inBlock];simp only at q;split at q
  ·rename_i e;rw[if_pos e];exact hR ds' .normal f' i' L' w' hi hs q
  ·rename_i e;rw[if_neg e];exact hR ds' (.exit j) f' i' L' w' hi hs q
theorem C5j{g:Operand}{ps:Array Tmp}{assign body:Code}{gf:FuncId}{cap:List Value}{dv:List (List Value)}(I:Nat→Imm→SH→Prop)(hg:ev n f g=.func (.func gf) #[] cap.toArray)(hgf:Z2 P gf=true)(hit:IterS P gf cap dv i)
 (hps:∀d∈dv,d.length=ps.size) (h0:I 0 i L)
 (round:∀k d i' L' R,dv[k]?=some d→i.le i'→I k i' L'→CS P n assign (B1m f ps.toList d) i' (L'++R) (C0n fun f1 i1 L1=>∃L1',L1=L1'++R∧
  ∀R',CS P n body f1 i1 (L1'++R') (C0n fun _ i2 L2=>∃L2',L2=L2'++R'∧I (k+1) i2 L2')))
 (post:∀r i' L',i.le i'→I dv.length i' L'→Q (A6e r::ds) .normal f i' (L'++[X6 r])):CX P n ds (.rangeFunc g ps assign body) f i L Q:=by
 unfold CX;intro w hw R hR;refine wpIn_rangeFunc fun fn _=>?_
 refine⟨_,_,_,{target:=.fn (.func gf) cap.toArray,args:=#[.func (.yield (w.heap.size+1)) #[] #[]]},(w.alloc (.deferred (some []))).alloc (N7 fn n f ps assign body w.heap.size .ready),gf,#[.func (.yield (w.heap.size+1)) #[] #[]]++cap.toArray,(w.alloc (.deferred (some []))).alloc (N7 fn n f ps assign body w.heap.size .ready),run_enterLoop_outer _ _ _ _ _,?_,fun _ _=>trivial,?_,nofun,?_⟩
 ·simp only[resolve,V7,hg];simp[Deferred.ofValue,ev];rfl
 ·simp[invoke,U6 hgf]
 ·have hs1:=hw.push (w':=w.alloc (.deferred (some []))) (o:=.deferred (some [])) rfl rfl rfl rfl;have hs2:=hs1.push (w':=(w.alloc (.deferred (some []))).alloc (N7 fn n f ps assign body w.heap.size .ready)) (o:=N7 fn n f ps assign body w.heap.size .ready) rfl rfl rfl rfl;have hsz:(w.alloc (.deferred (some []))).heap.size=w.heap.size+1:=World.size_alloc ..;rw[hsz] at hs2
  have hs3:St i (L++(w.heap.size+1,N7 fn n f ps assign body w.heap.size .ready)::[X6 w.heap.size]) ((w.alloc (.deferred (some []))).alloc (N7 fn n f ps assign body w.heap.size .ready)):=
   hs2.perm (List.perm_append_comm (l₁:=[(w.heap.size+1,N7 fn n f ps assign body w.heap.size .ready),X6 w.heap.size]) (l₂:=L))
  have hf:=hit i (Imm.le.refl i) (w.heap.size+1) (fun k i' L'=>∃L0,L'=L0++(w.heap.size+1,N7 fn n f ps assign body w.heap.size .ready)::[X6 w.heap.size]∧I k i' L0) (fun k d i' L' R2 hd hi hJ=>by
   obtain⟨L0,rfl,hI⟩:=hJ
   have h1:=B1w.round (l:=w.heap.size+1) (fn:=fn) (dfr:=w.heap.size) (R:=[X6 w.heap.size]++R2) (G3:=fun i2 L2=>I (k+1) i2 L2) (hps d (E9g hd))
    ((round k d i' L0 ((w.heap.size+1,N7 fn n f ps assign body w.heap.size .ready)::([X6 w.heap.size]++R2)) hd hi hI).mono fun e f1 i1 L1 _ q=>by
      unfold C0n Q5 at q⊢;cases e with
      |exit _=>exact q
      |ret=>exact q
      |normal=>
       obtain⟨L1',h2,h3⟩:=q;exact⟨L1',h2,h3 _⟩)
   have e1:(L0++(w.heap.size+1,N7 fn n f ps assign body w.heap.size .ready)::[X6 w.heap.size])++R2=L0++(w.heap.size+1,N7 fn n f ps assign body w.heap.size .ready)::([X6 w.heap.size]++R2):=by simp
   rw[e1];intro w2 hw2;obtain⟨a1,a2,a3,a4,a5,a6⟩:=h1 w2 hw2;refine⟨a1,a2,a3,a4,a5,a6.mono fun e w3 ⟨b,i3,L3,he,hi3,hs3',hb,L4,hL3,h4⟩=>⟨b,i3,L3,he,hi3,hs3',hb,_,?_,L4,rfl,h4⟩⟩;rw[hL3];simp) (L++(w.heap.size+1,N7 fn n f ps assign body w.heap.size .ready)::[X6 w.heap.size]) [] ⟨L,rfl,h0⟩
  have hc:=hf _ (by simpa using hs3);refine callsIn_wide.2 ?_;have ha:(#[Value.func (.yield (w.heap.size+1)) #[] #[]]++cap.toArray)=(Value.func (.yield (w.heap.size+1)) #[] #[]::cap).toArray:=by simp
  rw[ha];refine Calls.mono hc ?_;rintro e w3 ⟨v,i3,L3,rfl,hi3,hs3',L4,rfl,L5,rfl,hI⟩;have hs4:St i3 (L5++(w.heap.size+1,N7 fn n f ps assign body w.heap.size .ready)::[X6 w.heap.size]) w3:=by simpa using hs3'
  obtain⟨hl,hs5⟩:=A1y (o':=N7 fn n f ps assign body w.heap.size .exhausted) hs4;refine⟨_,_,run_endLoop hl (by simp),?_⟩
  have hs6:St i3 (L5++[X6 w.heap.size]) (w3.putObj (w.heap.size+1) (N7 fn n f ps assign body w.heap.size .exhausted)):=
   (hs5.perm (List.perm_middle)).drop
  exact hR (A6e w.heap.size::ds) .normal f i3 _ _ hi3 hs6 (post w.heap.size i3 L5 hi3 hI)
end
theorem D4h{P:Program}{g:FuncId}{fn:Func}{c:Code}{args:List Value}{i:Imm}{L:SH}{G3:Value→Imm→SH→Prop}{n r:Nat}
 (hf:P.funcs[g]?=some fn) (hb:fn.body=some c) (hn:fn.ntmps=n) (hl:args.length≤n) (hres:fn.results=#[.tmp r])
 (h:CX P n [] c (A6g 0 args) i L fun ds e f i' L'=>A6k (fun f i' L'=>∃(rs:List Nat)(L0:SH),ds=rs.map A6e∧L'=L0++rs.map X6∧G3 (ev n f (.tmp r)) i' L0) e f i' L'):E6 P g args i L G3:=by
 intro w hw
 refine(callsIn_wide (n:=0)).1 (callsIn_of_wp_marks hf hb trivial ?_)
 rw[hn,B7y n args hl];refine h.use w hw _ fun ds e f i' L' w' hi hs q=>?_
 have key:∀(rs:List Nat)(L0:SH)(w':World),St i' (L0++rs.map X6) w'→G3 (ev n f (.tmp r)) i' L0→LeavesInM Fence.wide 0 P fn (ofD n ds f).tmps (fun e w'=>∃v i' L',e=.returned v∧i.le i'∧St i' L' w'∧G3 v i' L') (rs.map A6e) .returning w':=by
  intro rs;induction rs with
  |nil=>
   intro L0 w' hs hp;refine⟨ev n f (.tmp r),?_,_,i',L0,rfl,hi,by simpa using hs,hp⟩;simp only[results,hres];have h8:(ofD n ds f).tmps[r]?.getD undef=ev n f (.tmp r):=evt n f r;simp[h8]
  |cons r0 rs ih=>
   intro L0 w' hs hp;refine⟨by simp,.inl ⟨r0,_,rfl,run_takeDeferred (ds:=[]) (hs.own (X6 r0) (by simp)),?_⟩⟩;have hs1:St i' (L0++(r0,.deferred (some []))::rs.map X6) w':=hs;obtain⟨_,hs2⟩:=A1y (o':=.deferred none) hs1;exact ih L0 _ (hs2.perm List.perm_middle).drop hp
 unfold A6k at q;cases e with
 |exit id=>exact q.elim
 |normal=>
  obtain⟨rs,L0,rfl,rfl,hp⟩:=q;exact key rs L0 w' hs hp
 |ret=>
  obtain⟨rs,L0,rfl,rfl,hp⟩:=q;exact key rs L0 w' hs hp
section
variable{P:Program}{n:Nat}{f:Fr}{i:Imm}{L:SH}{K:Value→Imm→SH→Prop}{dst:Option Nat}{ty:TypeId}{pos:String}{B4:Array Edge}{gd:Option (Nat×Bool)}{T:F7}
theorem St.setBlock{i:Imm}{L:SH}{w:World}{k b:Nat}{o:Obj}(o':Obj)(h:St i L w)(hk:L[k]?=some (b,o)):St i (L.set k (b,o')) (ChangeMaps.setBlock w b o'):=by
 have h7:=h.own _ (E9g hk);refine h.put hk rfl rfl rfl fun x=>?_
 show(w.heap.setIfInBounds b _)[x]?=_
 rw[Array.getElem?_setIfInBounds];have hlt:b<w.heap.size:=(Array.getElem?_eq_some_iff.1 h7).1;by_cases hxb:b=x
 ·subst hxb;rw[if_pos rfl,if_pos hlt,if_pos rfl]
 ·rw[if_neg hxb,if_neg (fun e=>hxb e.symm)]
theorem B9b(hT:T.ok P){t t':TypeId}{x y:Operand}{b k:Nat}{cs vs:List Value}(hx:ev n f x=.pointer (some ⟨b,0,none⟩))(hy:ev n f y=.agg vs.toArray)(hk:L[k]?=some (b,.cells cs.toArray t' (0,0)))
 (hl:cs.length=vs.length) (hne:vs≠[]) (hok:R8 T t vs=true) (h:K undef i (L.set k (b,.cells vs.toArray t' (0,0)))):P3 P n ⟨dst,.store t x y,ty,pos,B4,gd⟩ f i L K:=by
 refine J0 hT (cs':=vs) (k:=k) hx hy (by simp[M5]) hk hok ?_ (U2 _ _ _ _ hk) h
 have:=T7 vs cs 0 (by omega)
 rw[this];simp[hl]
end
section
variable{P:Program}{all:List Oper}{n:Nat}{r:List Oper}{f:Fr}{i:Imm}{L:SH}{K:Fr→Imm→SH→Prop}{dst:Option Nat}{ty:TypeId}{pos:String}{B4:Array Edge}{gd:Option (Nat×Bool)}{T:F7}
theorem K7(hT:T.ok P){t t':TypeId}{x y:Operand}{b k:Nat}{cs vs:List Value}(hg:P9 n f all ⟨dst,.store t x y,ty,pos,B4,gd⟩=true)(hx:ev n f x=.pointer (some ⟨b,0,none⟩))(hy:ev n f y=.agg vs.toArray)(hk:L[k]?=some (b,.cells cs.toArray t' (0,0)))
 (hl:cs.length=vs.length) (hne:vs≠[]) (hok:R8 T t vs=true) (h:RS P all n r (F3 f dst undef) i (L.set k (b,.cells vs.toArray t' (0,0))) K):RS P all n (⟨dst,.store t x y,ty,pos,B4,gd⟩::r) f i L K:=K5 hg (B9b hT hx hy hk hl hne hok h)
end
def C2v:TypeDesc→Bool
 | .int _=>true
 |_=>false
section
variable{P:Program}{n:Nat}{f:Fr}{i:Imm}{L:SH}{K:Value→Imm→SH→Prop}{dst:Option Nat}{ty:TypeId}{pos:String}{B4:Array Edge}{gd:Option (Nat×Bool)}{T:F7}
theorem D7p(hT:T.ok P){t:Nat}{x:Operand}{a:Option Addr}{l c:Nat}(ht:R5 T A1e t=true)(hx:ev n f x=.slice a l c):
 PV P n f ⟨dst,.call ⟨.builtin .cap,#[x],#[t]⟩,ty,pos,B4,gd⟩ (.int .i64 c):=by
 unfold PV;intro w;obtain⟨e,he⟩:=B6e hT ht;simp[execOp,resolve,invoke,builtin,Builtin.cap_,hx,run_underlying he,goInt]
theorem S2(hT:T.ok P){t sz l c:Nat}{x y:Operand}{a:Option Addr}{j:Int}{k:IntKind}(hx:ev n f x=.slice a l c)(hy:ev n f y=.int k j)(hs:A3v T t=some sz)(ha:a=none∨∃b o,a=some ⟨b,o,none⟩)(h:0≤j∧j≤c):
 PV P n f ⟨dst,.slice t x none (some y) none,ty,pos,B4,gd⟩ (.slice a j.toNat c):=by
 unfold PV;intro w;obtain⟨e,i,z,x',h1,h2,h3,h4,_⟩:=A0h hT hs;rcases ha with rfl|⟨b,o,rfl⟩
 ·simp[execOp,hx,hy,F1a,F1v,F0v,F1c,asIntOf,run_underlying h1,h,sizeOf,E0 h2]
 ·simp[execOp,hx,hy,F1a,F1v,F0v,F1c,asIntOf,run_underlying h1,h,sizeOf,E0 h2,E8]
theorem D3y(hT:T.ok P){t sz l c b o:Nat}{x y:Operand}{j:Int}{k:IntKind}(hx:ev n f x=.slice (some ⟨b,o,none⟩) l c)(hy:ev n f y=.int k j)(hs:A3v T t=some sz)(h:0≤j∧j≤l):
 PV P n f ⟨dst,.slice t x (some y) none none,ty,pos,B4,gd⟩ (.slice (some ⟨b,if c=j.toNat then o else o+j.toNat*sz,none⟩) (l-j.toNat) (c-j.toNat)):=by
 unfold PV;intro w;obtain⟨e,i,z,x',h1,h2,h3,h4,_⟩:=A0h hT hs;by_cases hc:c=j.toNat
 ·simp[execOp,hx,hy,F1a,F1v,F0v,F1c,asIntOf,run_underlying h1,h,sizeOf,E0 h2,hc]
 ·simp[execOp,hx,hy,F1a,F1v,F0v,F1c,asIntOf,run_underlying h1,h,sizeOf,E0 h2,hc,h3,E8]
theorem B4j(hT:T.ok P){t t1 e sz bytes m:Nat}{k:IntKind}{x y:Operand}(hx:ev n f x=.slice none 0 0)(hy:ev n f y=.int k (m:Int))(hte:∃d,D6 T t=some d∧d.desc=.slice e)(hti:R5 T C2v t1=true)(hee:∃d,D6 T e=some d∧d.size=sz∧d.bytes=bytes)(hsz:0<sz)
 (hm:0<m) (hmax:m*bytes≤140737488355328) (hmax2:m≤9223372036854775807)
 (h:∀b cap cs,m≤cap→cs.length=cap*sz→K (.slice (some ⟨b,0,none⟩) m cap) i ((b,.cells (E9d cs) e (0,0))::L)):P3 P n ⟨dst,.call ⟨.builtin .append,#[x,y],#[t,t1]⟩,ty,pos,B4,gd⟩ f i L K:=by
 obtain⟨d1,ht,hd⟩:=hte;obtain⟨d2,he,hes,heb⟩:=hee;have hu1:=(B6 hT ht).und;rw[hd] at hu1;obtain⟨_,hzl,ti,z,hi,hs,hb,hz,hzc⟩:=B6 hT he;have hzs:z.cells.size=sz:=by rw[hzc,List.size_toArray,hzl,hes]
 rw[hes] at hs;rw[heb] at hb
 obtain⟨kk,hu2⟩:∃kk,P.underlying t1=some (.int kk):=by
  unfold R5 at hti;split at hti
  ·rename_i x hx;have h1:=(B6 hT hx).und;cases hd:x.desc<;>rw[hd] at hti<;>first|(cases hti;done)|exact⟨_,by rw[h1,hd]⟩
  ·cases hti
 refine F5 fun w hw=>?_
 have hw1:IntKind.i64.wrap (m:Int)=m:=A9y _ (by omega);have hge:=grownCap_ge w m 0 e;have h48':¬(281474976710656<Builtin.nextslicecap m 0*ti.bytes):=by rw[nextslicecap_zero hm,hb];omega
 have h47:(m:Int)*(ti.bytes:Int)≤140737488355328:=by
  rw[hb,←Int.natCast_mul];omega
 have h48:¬(281474976710656<(m:Int)*(ti.bytes:Int)):=by omega
 have h63:¬(9223372036854775807<(m:Int)):=by omega
 have hm0:¬m=0:=by omega
 have hneg:¬(m:Int)<0:=by omega
 have hms:¬m*sz=0:=fun h0=>by have:=Nat.mul_pos hm hsz;omega
 have hr:(Builtin.append_ #[t,t1] ty #[.slice none 0 0,.int k (m:Int)]).run P w=
  .ok (.slice (some ⟨w.heap.size,0,none⟩) m (grownCap w m 0 e)) (w.drew.alloc (.cells (F1n z.cells m++F1n z.cells (grownCap w m 0 e-m)) e)):=by
  simp[Builtin.append_,run_underlying hu1,run_underlying hu2,sizeOf,typeInfo,zeroValue,hi,hz,asInt,asIntOf,hw1,h48,h48',h63,hm0,hs,hneg,hms,Question.forced,run_firstCells_none,newRow,grownCap]
 obtain⟨arr,harr⟩:∃arr,arr=F1n z.cells m++F1n z.cells (grownCap w m 0 e-m):=⟨_,rfl⟩;rw[←harr] at hr;refine⟨_,w.drew.alloc (.cells arr e),i,(w.heap.size,.cells arr e)::L,by simp[execOp,resolve,hx,hy,invoke,builtin,hr];rfl,Imm.le.refl i,St.push (w:=w.drew) hw.drew rfl rfl rfl rfl,?_⟩;subst harr;refine h w.heap.size (grownCap w m 0 e) (F1n z.cells m++F1n z.cells (grownCap w m 0 e-m)).toList hge ?_;rw[Array.length_toList,Array.size_append,size_zeroCells,size_zeroCells,hzs,←F1f];congr 1;omega
end
section
variable{P:Program}{all:List Oper}{n:Nat}{r:List Oper}{f:Fr}{i:Imm}{L:SH}{K:Fr→Imm→SH→Prop}{dst:Option Nat}{ty:TypeId}{pos:String}{B4:Array Edge}{gd:Option (Nat×Bool)}{T:F7}
theorem D3w(hT:T.ok P){t t1 e sz bytes m:Nat}{k:IntKind}{x y:Operand}(hg:P9 n f all ⟨dst,.call ⟨.builtin .append,#[x,y],#[t,t1]⟩,ty,pos,B4,gd⟩=true)(hx:ev n f x=.slice none 0 0)(hy:ev n f y=.int k (m:Int))(hte:∃d,D6 T t=some d∧d.desc=.slice e)(hti:R5 T C2v t1=true)(hee:∃d,D6 T e=some d∧d.size=sz∧d.bytes=bytes)(hsz:0<sz)
 (hm:0<m) (hmax:m*bytes≤140737488355328) (hmax2:m≤9223372036854775807)
 (h:∀b cap cs,m≤cap→cs.length=cap*sz→RS P all n r (F3 f dst (.slice (some ⟨b,0,none⟩) m cap)) i ((b,.cells (E9d cs) e (0,0))::L) K):RS P all n (⟨dst,.call ⟨.builtin .append,#[x,y],#[t,t1]⟩,ty,pos,B4,gd⟩::r) f i L K:=
 K5 hg (B4j hT hx hy hte hti hee hsz hm hmax hmax2 h)
end
theorem J2.addr{e:TypeId}{ao:Option Addr}{sz n cap:Nat}{xs:List Value}{O:SH}(h:J2 e (.slice ao n cap) sz n xs O):n≤cap∧((ao=none∧n=0∧cap=0)∨∃g,ao=some ⟨g,0,none⟩):=by
 obtain⟨_,⟨hv,rfl,_⟩|⟨g,c,sp,hv,h2,_⟩⟩:=h
 ·cases hv;exact⟨E9q _,.inl ⟨rfl,rfl,rfl⟩⟩
 ·cases hv;exact⟨h2,.inr ⟨g,rfl⟩⟩
def X9(ao:Option Addr)(cap k sz:Nat):Option Addr:=ao.map fun a=>if cap=k then a else⟨a.block,a.off+k*sz,none⟩
section
variable{P:Program}{n:Nat}{f:Fr}{i:Imm}{L:SH}{K:Value→Imm→SH→Prop}{dst:Option Nat}{ty:TypeId}{pos:String}{B4:Array Edge}{gd:Option (Nat×Bool)}{T:F7}
theorem A3e(hT:T.ok P){t sz l c j:Nat}{ao:Option Addr}{x y:Operand}{k:IntKind}(hx:ev n f x=.slice ao l c)(hy:ev n f y=.int k (j:Int))(hs:A3v T t=some sz)(ha:(ao=none∧l=0∧c=0)∨∃g,ao=some ⟨g,0,none⟩)(h:j≤l):
 PV P n f ⟨dst,.slice t x (some y) none none,ty,pos,B4,gd⟩ (.slice (X9 ao c j sz) (l-j) (c-j)):=by
 unfold PV;intro w;obtain⟨e,i,z,x',h1,h2,h3,h4,_⟩:=A0h hT hs;rcases ha with⟨rfl,rfl,rfl⟩|⟨g,rfl⟩
 ·have:j=0:=by omega
  subst this;simp[execOp,hx,hy,F1a,F1v,F0v,F1c,asIntOf,run_underlying h1,sizeOf,E0 h2,X9]
 ·have hj:(0:Int)≤(j:Int)∧(j:Int)≤(l:Int):=by omega
  by_cases hc:c=j
  ·simp[execOp,hx,hy,F1a,F1v,F0v,F1c,asIntOf,run_underlying h1,hj,sizeOf,E0 h2,hc,X9,h]
  ·simp[execOp,hx,hy,F1a,F1v,F0v,F1c,asIntOf,run_underlying h1,hj,sizeOf,E0 h2,hc,h3,X9,E8,h]
theorem D1f(hT:T.ok P){t e sz bytes:Nat}{x y:Operand}{u v:Value}{b o k m:Nat}{xs news:List Value}(hx:ev n f x=v)(hvv:v=.slice (some ⟨b,o,none⟩) k k)(hy:ev n f y=u)(hte:∃d,D6 T t=some d∧d.desc=.slice e)(hee:∃d,D6 T e=some d∧d.size=sz∧d.bytes=bytes)(hsz:0<sz)
 (hv:Sl i v sz k xs) (hk0:0<k) (hu:Rd i L u sz m news) (hmax:(k+m)*bytes≤140737488355328) (hmax2:k+m≤9223372036854775807)
 (h:∀v' i',i.le i'→Sl i' v' sz (k+m) (xs++news)→K v' i' L):P3 P n ⟨dst,.call ⟨.builtin .append,#[x,y],#[t,t]⟩,ty,pos,B4,gd⟩ f i L K:=by
 subst hvv;obtain⟨d1,ht,hd⟩:=hte;obtain⟨d2,he,hes,heb⟩:=hee;have hu1:=(B6 hT ht).und;rw[hd] at hu1;obtain⟨_,hzl,ti,z,hi,hs,hb,hz,hzc⟩:=B6 hT he;have hzs:z.cells.size=sz:=by rw[hzc,List.size_toArray,hzl,hes]
 rw[hes] at hs;rw[heb] at hb;obtain⟨uo,uc,rfl,hul,hur⟩:=hu;obtain⟨va,vc,hve,hvl,hvr⟩:=id hv;cases hve;refine F5 fun w hw=>?_
 have hex:∀r w',(Builtin.append_ #[t,t] ty #[.slice (some ⟨b,o,none⟩) k k,.slice uo m uc]).run P w=.ok r w'→(execOp (ev n f) ⟨dst,.call ⟨.builtin .append,#[x,y],#[t,t]⟩,ty,pos,B4,gd⟩).run P w=.ok (.value r) w':=by
  intro r w' hr;simp[execOp,resolve,hx,hy,invoke,builtin,hr]
 by_cases hm:m=0
 ·subst hm;have hn:news=[]:=F0t (by simpa using hul);subst hn;exact⟨_,w,i,L,hex _ _ (A1d w hu1 hi _ k k (E9q _) uo uc),Imm.le.refl i,hw,h _ i (Imm.le.refl i) (by simpa using hv)⟩
 ·have hne:news≠[]:=by
   intro h0;rw[h0] at hul
   have:0<m*sz:=Nat.mul_pos (by omega) hsz
   simp at hul;omega
  have hnx:xs≠[]:=by
   intro h0;rw[h0] at hvl
   have:0<k*sz:=Nat.mul_pos hk0 hsz
   simp at hvl;omega
  obtain⟨b2,o2,cs2,tt2,fz2,rfl,hbl2,hcell2⟩:=hur.resolve_left hne;obtain⟨b3,o3,cs3,tt3,fz3,he3,hbl3,hcell3⟩:=hvr.resolve_left hnx;cases he3
  have hnews:∀j c,news[j]?=some c→w.cell? ((⟨b2,o2,none⟩:Addr).add j)=some c:=by
   intro j c hj;rw[E8,P7 (hbl2.block hw),hcell2 j (E9e.1 hj).1,hj]
  have holds:∀j c,xs[j]?=some c→w.cell? ((⟨b,o,none⟩:Addr).add j)=some c:=by
   intro j c hj;rw[E8,P7 (hw.imm _ _ hbl3),hcell3 j (E9e.1 hj).1,hj]
  have hr:=run_append_grow (P:=P) (ty:=ty) w t e ti z hu1 hi hz ⟨b,o,none⟩ k k xs (by rw[hs];exact hvl) holds ⟨b2,o2,none⟩ m uc news (by rw[hs];exact hul) hnews (by omega) (by omega) (by rw[hb];exact growslice_fits (by omega) hmax);obtain⟨arr,harr⟩:∃arr,arr=xs.toArray++news.toArray++F1n z.cells (grownCap w (k+m) k e-(k+m)):=⟨_,rfl⟩;rw[←harr] at hr;have hS:St i ((w.heap.size,.cells arr e (0,0))::L) (w.drew.alloc (.cells arr e (0,0))):=St.push (w:=w.drew) hw.drew rfl rfl rfl rfl;obtain⟨f1,f2⟩:=hS.freeze;refine⟨_,_,_,L,hex _ _ hr,f1,f2,h _ _ f1 ?_⟩;have hlen:(xs++news).length=(k+m)*sz:=by rw[E9h,hvl,hul,F1f]
  refine⟨_,_,rfl,hlen,.inr ⟨w.heap.size,0,arr.toList,e,(0,0),rfl,by simp[Imm.add],fun j hj=>?_⟩⟩;rw[harr];simp only[Array.toList_append,F1b];rw[E9t (by simpa using hj)]
end
def A9u(all:List Oper)(k:Nat)(before later:List Nat)(t1:Option Nat):Bool:=
 match all[k]? with
 |some o=>
  ((o.looksAt all.toArray).all fun t=>(List.range all.length).all fun j=> !M7 all j t||(before.contains j&&X1 all k j)||(later.contains j&&X1 all j k&&before.all fun m=> !M7 all m t)|| !(before.contains j||later.contains j))&&
  (match o.dst with
   |some d=> !((o.looksAt all.toArray).contains d)&&(later.all fun j=> !M7 all j d)
   |none=>true)&&
  (o.after.toList.all fun e=> !Region.binds .any e||before.contains e.on)&&
  !before.contains k&&
  (match t1 with
   |some t=>X1 all t k||later.any (fun j=>X1 all j k)
   |none=>true)
 |none=>false
def Q2(all:List Oper)(t1:Option Nat):List Nat→List Nat→Bool
 |_,[]=>true
 |before,k::later=>A9u all k before later t1&&Q2 all t1 (before++[k]) later
def A9t(all:List Oper)(head tail lc:List Nat):Bool:=
 Q2 all tail.head? [] head&&A5a all tail&&A5a all lc&&okCover all head tail&&lc.all (head.contains ·)&&D1t all.toArray tail (W1 all head)
section
variable{P:Program}{all:List Oper}{n:Nat}
theorem A2k{t1:Option Nat}:∀(r b:List Nat),Q2 all t1 b r=true→∀x∈r,x<all.length:=by
 intro r;induction r with
 |nil=>intro b _ x hx;cases hx
 |cons y r ih2=>
  intro b hb x hx;simp only[Q2,E9j] at hb;rcases F0b.1 hx with rfl|hx
  ·have:=hb.1
   unfold A9u at this;split at this
   ·rename_i hy;exact(E9e.1 hy).1
   ·cases this
  ·exact ih2 _ hb.2 x hx
theorem A3q{t1:Option Nat}:∀(r b:List Nat),Q2 all t1 b r=true→∀x∈r,x∉b:=by
 intro r;induction r with
 |nil=>intro b _ x hx;cases hx
 |cons y r ih2=>
  intro b hb x hx hxb;simp only[Q2,E9j] at hb;rcases F0b.1 hx with rfl|hx
  ·have:=hb.1
   unfold A9u at this;split at this
   ·simp only[E9j,Bool.not_eq_true'] at this;have h6:=this.1.2;simp[hxb] at h6
   ·cases this
  ·exact ih2 _ hb.2 x hx (F1p _ hxb)
theorem Z0{t1:Option Nat}:∀(r b:List Nat),Q2 all t1 b r=true→∀(pre:List Nat)(k:Nat)(post:List Nat),r=pre++k::post→A9u all k (b++pre) post t1=true:=by
 intro r;induction r with
 |nil=>intro b _ pre k post h;cases pre<;>cases h
 |cons y r ih=>
  intro b hb pre k post h;simp only[Q2,E9j] at hb;cases pre with
  |nil=>simp only[List.nil_append,List.cons.injEq] at h;obtain⟨rfl,rfl⟩:=h;simpa using hb.1
  |cons z pre=>
   simp only[List.cons_append,List.cons.injEq] at h;obtain⟨rfl,h⟩:=h
   have:=ih _ hb.2 pre k post h
   simpa using this
theorem A8a{k:Nat}{b l:List Nat}{t1:Option Nat}(h:A9u all k b l t1=true):∃o,all[k]?=some o∧
 (∀t∈o.looksAt all.toArray,∀j,j<all.length→j∈b∨j=k∨j∈l→M7 all j t=true→(j∈b∧X1 all k j=true)∨(j∈l∧X1 all j k=true∧∀m∈b,M7 all m t=false))∧
 (∀e∈o.after,Region.binds .any e=true→e.on∈b)∧(∀t,t1=some t→X1 all t k=true∨∃j∈l,X1 all j k=true):=by
 unfold A9u at h;split at h
 ·rename_i o ho;simp only[E9j] at h;obtain⟨⟨⟨⟨h1,h2⟩,h3⟩,_⟩,h5⟩:=h;refine⟨o,ho,fun t ht j hj hin hd=>?_,fun e he hb=>?_,fun t ht=>?_⟩
  ·have:=F0c.1 (F0c.1 h1 t ht) j (List.mem_range.2 hj)
   by_cases hjk:j=k
   ·subst hjk;exfalso;unfold M7 at hd;simp only[ho] at hd;cases hod:o.dst with
    |none=>rw[hod] at hd;cases hd
    |some d=>
     rw[hod] at hd h2
     have:d=t:=E9m hd
     subst this;simp[ht] at h2
   have hc:(b.contains j||l.contains j)=true:=by
    rcases hin with h|h|h
    ·simp[h]
    ·exact absurd h hjk
    ·simp[h]
   rw[hd,hc] at this;simp only[Bool.not_true,Bool.false_or,Bool.or_false,Bool.or_eq_true,E9j] at this;rcases this with h|h
   ·exact .inl ⟨by simpa using h.1,h.2⟩
   ·exact .inr ⟨by simpa using h.1.1,h.1.2,fun m hm=>by simpa using F0c.1 h.2 m hm⟩
  ·have:=F0c.1 h3 e (by simpa using he)
   rw[hb] at this;simpa using this
  ·subst ht;simp only[Bool.or_eq_true,List.any_eq_true] at h5;exact h5
 ·cases h
theorem E6q{F:Fence}(hF:Wd F){head tail:List Nat}{Q:Exit→Act→World→Prop}{tops:List Oper}(hok:A9t all head tail []=true)
 (htops:tail.map (all.toArray[·]?)=tops.map some) (Inv:(Nat→Bool)→Act→World→Prop)
 (hstep:∀(s:Nat→Bool)(j:Nat)(o:Oper)(a:Act)(w:World),j∈head→s j=false→all[j]?=some o→(∀e∈o.after,Region.binds .any e=true→s e.on=true)→Inv s a w→
  (if Region.wanted o (yielded all.toArray a.tmps) then o.wpIn F 0 P a w (fun a' w'=>Inv (X5 s j) a' w') Q else Inv (X5 s j) (a.put o.dst undef) w))
 (hend:∀a w,Inv (fun k=>head.contains k) a w→wpR F P all.toArray Q tops a w):
 ∀(fuel:Nat)(listed:Array Bool)(a:Act)(w:World),listed.size=all.length→(∀t∈tail,listed.getD t false=false)→
  (∀k o,all[k]?=some o→listed.getD k false=true→∀e∈o.after,Region.binds .any e=true→listed.getD e.on false=true)→
  fuel=(head.filter fun k=> !listed.getD k false).length+tail.length→Inv (fun k=>listed.getD k false) a w→wpAnyIn F 0 P .any all.toArray Q fuel listed a w:=by
 simp only[A9t,E9j] at hok;obtain⟨⟨⟨⟨⟨hhead,hct⟩,hcl⟩,hcov⟩,hlc⟩,hseq⟩:=hok;have hhl:=A2k _ _ hhead
 have cov:∀k,k<all.length→(k∈head∧k∉tail)∨(k∉head∧k∈tail):=by
  intro k hk
  have:=F0c.1 hcov k (List.mem_range.2 hk)
  simpa using this
 have full:(fun k=>(W1 all head).getD k false)=fun k=>head.contains k:=by
  funext k;by_cases hk:k<all.length
  ·simp[W1,hk]
  ·have:head.contains k=false:=by
    cases hc:head.contains k with
    |false=>rfl
    |true=>exact absurd (hhl k (by simpa using hc)) hk
   rw[this];simp[W1,hk]
 intro fuel;induction fuel with
 |zero=>
  intro listed a w hsz htl hcl2 hf hJ;have htn:tail=[]:=List.length_eq_zero_iff.1 (by omega)
  have hall:∀k∈head,listed.getD k false=true:=by
   intro k hk;cases hx:listed.getD k false with
   |true=>rfl
   |false=>
    have:k∈head.filter fun k=> !listed.getD k false:=List.mem_filter.2 ⟨hk,by simp[hx]⟩
    rw[List.length_eq_zero_iff.1 (show(head.filter fun k=> !listed.getD k false).length=0 by omega)] at this;cases this
  have hL:listed=W1 all head:=by
   apply Array.ext
   ·simp[W1,hsz]
   ·intro j h1 h2;have hj:j<all.length:=by omega
    rcases cov j hj with⟨h3,h4⟩|⟨h3,h4⟩
    ·have:=hall j h3
     simp[h1] at this;simp[W1,this,h3]
    ·have:=htl j h4
     simp[h1] at this;simp[W1,this,h3]
  rw[hL] at hJ⊢;subst htn;rw[full] at hJ;exact A0m [] _ tops _ _ htops hseq (hend _ _ hJ)
 |succ fuel ih=>
  intro listed a w hsz htl hcl2 hf hJ;by_cases hall:∀k∈head,listed.getD k false=true
  ·have hL:listed=W1 all head:=by
    apply Array.ext
    ·simp[W1,hsz]
    ·intro j h1 h2;have hj:j<all.length:=by omega
     rcases cov j hj with⟨h3,h4⟩|⟨h3,h4⟩
     ·have:=hall j h3
      simp[h1] at this;simp[W1,this,h3]
     ·have:=htl j h4
      simp[h1] at this;simp[W1,this,h3]
   have hfil:(head.filter fun k=> !listed.getD k false).length=0:=by
    rw[List.length_eq_zero_iff,List.filter_eq_nil_iff];intro k hk;simp only[hall k hk];decide
   rw[hL] at hJ;rw[full] at hJ;rw[show fuel+1=tail.length by omega,hL];exact A0m tail _ tops _ _ htops hseq (hend _ _ hJ)
  ·
   have hex:∃k,k∈head∧listed.getD k false=false:=by
    rcases Classical.em (∃k,k∈head∧listed.getD k false=false) with h|h
    ·exact h
    ·exact absurd (fun k hk=>by cases hx:listed.getD k false with|true=>rfl|false=>exact absurd ⟨k,hk,hx⟩ h) hall
   have first:∀(r pre:List Nat),head=pre++r→(∀k∈pre,listed.getD k false=true)→(∃k∈r,listed.getD k false=false)→∃pre k post,head=pre++k::post∧(∀j∈pre,listed.getD j false=true)∧listed.getD k false=false:=by
    intro r;induction r with
    |nil=>intro pre _ _ h;obtain⟨k,hk,_⟩:=h;cases hk
    |cons y r ih2=>
     intro pre hp hpre hx;cases hy:listed.getD y false with
     |false=>exact⟨pre,y,r,hp,hpre,hy⟩
     |true=>
      refine ih2 (pre++[y]) (by simp[hp]) (fun k hk=>?_) ?_
      ·rcases E9r.1 hk with h|h
       ·exact hpre k h
       ·rw[List.mem_singleton.1 h];exact hy
      ·obtain⟨k,hk,hkf⟩:=hx;rcases F0b.1 hk with rfl|hk
       ·rw[hy] at hkf;cases hkf
       ·exact⟨k,hk,hkf⟩
   have getDt:∀k,k<all.length→listed.getD k false=false→listed.getD k true=false:=fun k hk h=>getD_in (by omega) h
   have hne:Region.ready .any all.toArray listed≠[]:=by
    obtain⟨pre,k,post,hp,hpre,hk⟩:=first head [] rfl (fun _ h=>by cases h) (by obtain⟨k,h1,h2⟩:=hex;exact⟨k,h1,h2⟩);obtain⟨o,ho,_,hedge,_⟩:=A8a (Z0 _ _ hhead pre k post hp)
    have hr:k∈Region.ready .any all.toArray listed:=by
     refine mem_ready.2 ⟨getDt k (E9e.1 ho).1 hk,o,by simpa using ho,fun e he hb=>hpre _ (by simpa using hedge e he hb)⟩
    intro h0;rw[h0] at hr;cases hr
   refine⟨fun h0=>absurd h0 hne,fun j hj=>?_⟩;obtain⟨hjun,oj,hoj,hpreds⟩:=mem_ready.1 hj;have hoj':all[j]?=some oj:=by simpa using hoj
   have hjl:j<all.length:=(E9e.1 hoj').1;have hjf:listed.getD j false=false:=getD_both hjun;rcases cov j hjl with⟨hjh,hjt⟩|⟨hjh,hjt⟩
   ·
    obtain⟨pre,post,hp⟩:=F0z hjh;have hsz':(listed.setIfInBounds j true).size=all.length:=by simp[hsz]
    have htl':∀t∈tail,(listed.setIfInBounds j true).getD t false=false:=by
     intro t ht;rw[getD_set_ne false (by rintro rfl;exact hjt ht)];exact htl t ht
    have hjset:(listed.setIfInBounds j true).getD j false=true:=by
     have:j<listed.size:=by omega
     simp[this]
    have hcl':∀k o,all[k]?=some o→(listed.setIfInBounds j true).getD k false=true→∀e∈o.after,Region.binds .any e=true→(listed.setIfInBounds j true).getD e.on false=true:=by
     intro k o hk hl e he hb;by_cases hjk:j=k
     ·subst hjk
      have:o=oj:=by rw[hoj'] at hk;exact(Option.some.inj hk).symm
      subst this;exact getD_set_true (hpreds e he hb)
     ·rw[getD_set_ne false hjk] at hl;exact getD_set_true (hcl2 k o hk hl e he hb)
    have hfuel:fuel=(head.filter fun k=> !(listed.setIfInBounds j true).getD k false).length+tail.length:=by
     have hnd:(head.filter fun k=> !listed.getD k false).length=(head.filter fun k=> !(listed.setIfInBounds j true).getD k false).length+1:=by
      have hjpre:j∉pre:=by
       have hsp:=Z0 _ _ hhead pre j post hp;unfold A9u at hsp;split at hsp
       ·simp only[E9j,Bool.not_eq_true'] at hsp
        have:=hsp.1.2
        simpa using this
       ·cases hsp
      have hjpost:j∉post:=by
       intro hin;obtain⟨p1,p2,hpp⟩:=F0z hin;have hsp:=Z0 _ _ hhead (pre++j::p1) j p2 (by rw[hp,hpp];simp);unfold A9u at hsp;split at hsp
       ·simp only[E9j,Bool.not_eq_true'] at hsp
        have:=hsp.1.2
        simp at this
       ·cases hsp
      have same:∀l:List Nat,j∉l→(l.filter fun k=> !(listed.setIfInBounds j true).getD k false)=l.filter fun k=> !listed.getD k false:=by
       intro l hl;apply List.filter_congr;intro k hk;rw[getD_set_ne false (by rintro rfl;exact hl hk)]
      rw[hp,List.filter_append,List.filter_append,List.filter_cons,List.filter_cons,same pre hjpre,same post hjpost];simp only[hjf,hjset];simp;omega
     omega
    have hst:=hstep (fun k=>listed.getD k false) j oj a w hjh hjf hoj' hpreds hJ
    have hset:(fun k=>(listed.setIfInBounds j true).getD k false)=X5 (fun k=>listed.getD k false) j:=by
     funext k;by_cases hkj:k=j
     ·subst hkj;rw[U4,hjset]
     ·rw[S9 _ hkj,getD_set_ne false (Ne.symm hkj)]
    unfold wpOpIn;simp only[hoj];split at hst
    ·rename_i hw;rw[if_pos hw];refine Oper.wpIn_mono (fun a' w' hI=>ih _ _ _ hsz' htl' hcl' hfuel ?_) hst;rw[hset];exact hI
    ·rename_i hw;rw[if_neg hw];refine⟨fun f' _=>hF.fn f',ih _ _ _ hsz' htl' hcl' hfuel ?_⟩;rw[hset];exact hst
   ·
    exfalso;obtain⟨q,hq⟩:=F0j.1 hjt;cases q with
    |succ q=>
     have hqt:q<tail.length:=by have:=(E9e.1 hq).1;omega
     have hq1:tail[q]?=some tail[q]:=E9v hqt;have hw:=A3r _ hct q tail[q] j hq1 hq;obtain⟨o2,ho2,e,he,hb,hon⟩:=A5e hw
     have:o2=oj:=by rw[hoj'] at ho2;exact(Option.some.inj ho2).symm
     subst this;have h1:=hpreds e he hb;rw[hon,htl tail[q] (E9g hq1)] at h1;cases h1
    |zero=>
     have ht1:tail.head?=some j:=by rw[List.head?_eq_getElem?];exact hq
     have all1:∀(d:Nat)(pre:List Nat)(k:Nat)(post:List Nat),head=pre++k::post→post.length=d→listed.getD k false=true:=by
      intro d;induction d using Nat.strongRecOn with
      |_ d ih3=>
       intro pre k post hp hd;obtain⟨o,ho,_,_,h5⟩:=A8a (Z0 _ _ hhead pre k post hp);rcases h5 j ht1 with hw|⟨k2,hk2,hw⟩
       ·obtain⟨o2,ho2,e,he,hb,hon⟩:=A5e hw
        have:o2=oj:=by rw[hoj'] at ho2;exact(Option.some.inj ho2).symm
        subst this;rw[←hon];exact hpreds e he hb
       ·obtain⟨p1,p2,hpp⟩:=F0z hk2;have h6:=ih3 p2.length (by rw[←hd,hpp];simp;omega) (pre++k::p1) k2 p2 (by rw[hp,hpp];simp) rfl;obtain⟨o2,ho2,e,he,hb,hon⟩:=A5e hw;rw[←hon];exact hcl2 k2 o2 ho2 h6 e he hb
     obtain⟨k,hk,hkf⟩:=hex;obtain⟨pre,post,hp⟩:=F0z hk
     have:=all1 post.length pre k post hp rfl
     rw[hkf] at this;cases this
theorem B2v{f:Fr}{id:Nat}{i:Imm}{L:SH}{Q:Ex→Fr→Imm→SH→Prop}{tops:List Oper}(hm:P.follows .mixedOrders=true)(head tail:List Nat)(hok:A9t all head tail []=true)(htops0:A6x all tail=some tops)
 (H:(Nat→Bool)→Fr→Imm→SH→Prop) (h0:H (fun _=>false) f i L)
 (hob:∀j∈head,∀o,all[j]?=some o→∀s:Nat→Bool,s j=false→(∀e∈o.after,Region.binds .any e=true→s e.on=true)→∀g i' L',i.le i'→H s g i' L'→
  (P9 n g all o=true∧P3 P n o g i' L' fun v i'' L''=>H (X5 s j) (F3 g o.dst v) i'' L'')∨(P9 n g all o=false∧H (X5 s j) (F3 g o.dst undef) i' L'))
 (hend:∀g i' L',i.le i'→H (fun k=>head.contains k) g i' L'→RS P all n tops g i' L' fun f' i'' L''=>Q .normal f' i'' L''):CS P n (.region id all.toArray true) f i L Q:=by
 unfold CS;intro Fc hFc ds w hw R hR;refine wpIn_region_any hm ?_;have htops:=B3v tail tops htops0;have hrep:∀(m j:Nat),(Array.replicate m false).getD j false=false:=getD_replicate_false
 have hhead:Q2 all tail.head? [] head=true:=by
  simp only[A9t,E9j] at hok;exact hok.1.1.1.1.1
 have hcount:all.length=(head.filter fun k=> !(Array.replicate all.length false).getD k false).length+tail.length:=by
  have h1:(head.filter fun k=> !(Array.replicate all.length false).getD k false)=head:=by
   rw[List.filter_eq_self];intro k _;simp only[hrep];decide
  rw[h1];simp only[A9t,E9j] at hok;obtain⟨⟨⟨⟨⟨_,_⟩,_⟩,hcov⟩,_⟩,hseq⟩:=hok
  have htn:∀(ts:List Nat)(listed:Array Bool),D1t all.toArray ts listed=true→ts.Nodup∧∀t∈ts,t<all.length∧listed.getD t true=false:=by
   intro ts;induction ts with
   |nil=>intro _ _;exact⟨List.nodup_nil,fun t ht=>by cases ht⟩
   |cons t ts ih=>
    intro listed hs;simp only[D1t,E9j,decide_eq_true_eq] at hs;have hr:t∈Region.ready .any all.toArray listed:=by rw[hs.1];simp
    obtain⟨h2,o,ho,_⟩:=mem_ready.1 hr;obtain⟨i1,i2⟩:=ih _ hs.2
    have htl:t<all.length:=by
     have:=(Array.getElem?_eq_some_iff.1 ho).1;simpa using this
    refine⟨List.nodup_cons.2 ⟨fun hin=>?_,i1⟩,fun x hx=>?_⟩
    ·have:=(i2 t hin).2
     by_cases hsz:t<listed.size
     ·simp[hsz] at this
     ·simp[hsz] at h2
    ·rcases F0b.1 hx with rfl|hx
     ·exact⟨htl,h2⟩
     ·refine⟨(i2 x hx).1,?_⟩;have h3:=(i2 x hx).2;by_cases hxt:t=x
      ·subst hxt;exact h2
      ·rwa [getD_set_ne true hxt] at h3
  have hhn:head.Nodup:=by
   have:∀(r b:List Nat),Q2 all tail.head? b r=true→r.Nodup:=by
    intro r;induction r with
    |nil=>intro _ _;exact List.nodup_nil
    |cons x r ih=>
     intro b hb;simp only[Q2,E9j] at hb;exact List.nodup_cons.2 ⟨fun hin=>A3q _ _ hb.2 x hin (by simp),ih _ hb.2⟩
   exact this head [] hhead
  obtain⟨t1,t2⟩:=htn tail _ hseq
  have hperm:(head++tail).Perm (List.range all.length):=by
   refine(List.perm_ext_iff_of_nodup (List.nodup_append.2 ⟨hhn,t1,fun a ha b hb e=>?_⟩) List.nodup_range).2 fun k=>?_
   ·subst e
    have:=F0c.1 hcov a (List.mem_range.2 (A2k _ _ hhead a ha))
    simp[ha,hb] at this
   ·rw[E9r,List.mem_range];constructor
    ·rintro(hk|hk)
     ·exact A2k _ _ hhead k hk
     ·exact(t2 k hk).1
    ·intro hk
     have:=F0c.1 hcov k (List.mem_range.2 hk)
     simp at this;rcases this with h|h
     ·exact .inl h.1
     ·exact .inr h.2
  have:=hperm.length_eq
  simp at this;omega
 have:=E6q (P:=P) hFc (Q:=R) (tops:=tops) hok htops (fun s a w=>∃g i' L',a=ofD n ds g∧i.le i'∧St i' L' w∧H s g i' L') (fun s j o a w' hj hs ho hp hI=>by
  obtain⟨g,i',L',rfl,hi,hst,hH⟩:=hI;rw[A9c];rcases hob j hj o ho s hs hp g i' L' hi hH with⟨hg,hop⟩|⟨hg,hH'⟩
  ·rw[if_pos hg];exact hop.use hFc ds w' hst _ _ fun v i'' L'' w'' hi' hs' hH''=>⟨_,i'',L'',rfl,hi.trans hi',hs',hH''⟩
  ·rw[if_neg (by rw[hg];decide),Y2];exact⟨_,i',L',rfl,hi,hst,hH'⟩) (fun a w' hI=>by
  obtain⟨g,i',L',rfl,hi,hst,hH⟩:=hI
  have:=hend g i' L' hi hH
  unfold RS at this;exact this Fc hFc ds w' hst R fun f' i'' L'' w'' hi' hs' q=>hR .normal f' i'' L'' w'' (hi.trans hi') hs' q) all.length (Array.replicate all.length false) (ofD n ds f) {w with drawn:=w.drawn+1} (by simp) (fun t _=>hrep _ t)
  (fun k o _ hl=>by rw[hrep] at hl;cases hl) hcount ⟨f,i,L,rfl,Imm.le.refl i,hw.drew,by
   have:(fun k=>(Array.replicate all.length false).getD k false)=fun _=>false:=funext fun k=>hrep _ k
   rw[this];exact h0⟩
 simpa using this
end
structure Stage where
 s:List Nat
 m:Imm→List Value→SH→Prop
def Stage.mono(M:Stage):Prop:=∀i i',Imm.le i i'→∀vs L,M.m i vs L→M.m i' vs L
def B3k(all:List Oper)(done s:List Nat):Bool:=s.all fun t=>(List.range all.length).all fun k=> !M7 all k t||done.contains k
section
variable{P:Program}{all:List Oper}{n:Nat}{i0:Imm}{Inv:SH→Prop}{lc:List Nat}
def ObFr(P:Program)(all:List Oper)(n:Nat)(i0:Imm)(Inv:SH→Prop)(o:Oper)(κ:Kap)(K:Imm→Value→Prop):Prop:=
 ∀i',i0.le i'→∀g:Fr,(∀t∈o.looksAt all.toArray,κ t i' (g t))→∀L',Inv L'→
  (P9 n g all o=true∧P3 P n o g i' L' fun v i'' L''=>L''=L'∧K i'' v)∨(P9 n g all o=false∧K i' undef)
def ObCh(P:Program)(all:List Oper)(n:Nat)(i0:Imm)(Inv:SH→Prop)(o:Oper)(κ:Kap)(K:Imm→Value→Prop)(M M':Stage):Prop:=
 ∀i',i0.le i'→∀g:Fr,(∀t∈o.looksAt all.toArray,κ t i' (g t))→∀L',Inv L'→M.m i' (M.s.map g) L'→
  P9 n g all o=true∧P3 P n o g i' L' fun v i'' L''=>Inv L''∧M'.m i'' (M'.s.map (F3 g o.dst v)) L''∧K i'' v
def RM0(P:Program)(all:List Oper)(n:Nat)(i0:Imm)(Inv:SH→Prop)(lc:List Nat)(Kont:Kap→Stage→Prop):List Nat→Kap→Nat→Stage→Prop
 |[],κ,q,M=>q=lc.length∧Kont κ M
 |k::r,κ,q,M=>∃o K,all[k]?=some o∧A4q K∧
  ((k∉lc∧ObFr P all n i0 Inv o κ K∧RM0 P all n i0 Inv lc Kont r (A8w κ o.dst K) q M)∨
   (lc[q]?=some k∧∃M',M'.mono∧B3k all (lc.take (q+1)) M'.s=true∧ObCh P all n i0 Inv o κ K M M'∧RM0 P all n i0 Inv lc Kont r (A8w κ o.dst K) (q+1) M'))
def LK(all:List Oper)(post:List Nat)(o:Oper)(κ0 κ':Kap)(i':Imm)(g:Fr):Prop:=
 ∀t∈o.looksAt all.toArray,((∀j∈post,M7 all j t=false)→κ' t i' (g t))∧((∃j∈post,M7 all j t=true)→κ0 t i' (g t))
def ObFr'(P:Program)(all:List Oper)(n:Nat)(i0:Imm)(Inv:SH→Prop)(post:List Nat)(o:Oper)(κ0 κ:Kap)(K:Imm→Value→Prop):Prop:=
 ∀i',i0.le i'→∀g:Fr,LK all post o κ0 κ i' g→∀L',Inv L'→
  (P9 n g all o=true∧P3 P n o g i' L' fun v i'' L''=>L''=L'∧K i'' v)∨(P9 n g all o=false∧K i' undef)
def ObCh'(P:Program)(all:List Oper)(n:Nat)(i0:Imm)(Inv:SH→Prop)(post:List Nat)(o:Oper)(κ0 κ:Kap)(K:Imm→Value→Prop)(M M':Stage):Prop:=
 ∀i',i0.le i'→∀g:Fr,LK all post o κ0 κ i' g→∀L',Inv L'→M.m i' (M.s.map g) L'→
  P9 n g all o=true∧P3 P n o g i' L' fun v i'' L''=>Inv L''∧M'.m i'' (M'.s.map (F3 g o.dst v)) L''∧K i'' v
theorem D9z{Kont:Kap→Stage→Prop}{t1:Option Nat}(κ0:Kap):∀(r before:List Nat)(κ:Kap)(q:Nat)(M:Stage),RM0 P all n i0 Inv lc Kont r κ q M→Q2 all t1 before r=true→(∀t,A4q (κ t))→M.mono→B3k all (lc.take q) M.s=true→(∀t,(∀m∈before,M7 all m t=false)→κ t=κ0 t)→
 ∃(κ':Kap)(Ms:Nat→Stage),Ms q=M∧Kont κ' (Ms lc.length)∧(∀t,A4q (κ' t))∧(∀t,(∀k∈r,M7 all k t=false)→κ' t=κ t)∧(∀q',q≤q'→q'≤lc.length→(Ms q').mono∧B3k all (lc.take q') (Ms q').s=true)∧
  ∀pre k post,r=pre++k::post→∃o K,all[k]?=some o∧(∀d,o.dst=some d→κ' d=K)∧((k∉lc∧ObFr' P all n i0 Inv post o κ0 κ' K)∨∃q',q≤q'∧lc[q']?=some k∧ObCh' P all n i0 Inv post o κ0 κ' K (Ms q') (Ms (q'+1))):=by
 intro r;induction r with
 |nil=>
  intro before κ q M h _ hm hM hs _;obtain⟨h1,h2⟩:=h;subst h1
  exact⟨κ,fun _=>M,rfl,h2,hm,fun _ _=>rfl,fun q' h1 h2=>(by have:q'=lc.length:=by omega
                                                            subst this;exact⟨hM,hs⟩),fun pre k post hk=>by cases pre<;>cases hk⟩
 |cons k r ih=>
  intro before κ q M h hok hm hM hs hκ0;obtain⟨o,K,ho,hK,h⟩:=h;simp only[Q2,E9j] at hok
  have hm':∀t,A4q (A8w κ o.dst K t):=by
   intro t;cases hd:o.dst with
   |none=>simpa [A8w] using hm t
   |some d=>
    simp only[A8w];split
    ·exact hK
    ·exact hm t
  obtain⟨o',ho',hlook,_,_⟩:=A8a hok.1;rw[ho] at ho';cases ho'
  have hdst:∀d,o.dst=some d→d∉o.looksAt all.toArray∧∀j∈r,M7 all j d=false:=by
   intro d hd;have hop:=hok.1;simp only[A9u,ho,hd,E9j,Bool.not_eq_true'] at hop;refine⟨fun hin=>?_,fun j hj=>by simpa using F0c.1 hop.1.1.1.2.2 j hj⟩
   have:=hop.1.1.1.2.1
   simp[hin] at this
  have hκ1:∀t,(∀m∈before++[k],M7 all m t=false)→A8w κ o.dst K t=κ0 t:=by
   intro t ht;rw[←hκ0 t fun m hm=>ht m (F1p _ hm)];cases hd:o.dst with
   |none=>rfl
   |some d=>
    simp only[A8w];rw[if_neg];rintro rfl
    have:=ht k (by simp)
    rw[A4a ho hd] at this;cases this
  have key:∀κ':Kap,(∀t,(∀k∈r,M7 all k t=false)→κ' t=A8w κ o.dst K t)→(∀t,(∀k'∈k::r,M7 all k' t=false)→κ' t=κ t)∧(∀d,o.dst=some d→κ' d=K)∧
   ∀i' (g:Fr),LK all r o κ0 κ' i' g→∀t∈o.looksAt all.toArray,κ t i' (g t):=by
   intro κ' h3;refine⟨fun t ht=>?_,fun d hd=>?_,fun i' g hg t ht=>?_⟩
   ·rw[h3 t (fun k' hk'=>ht k' (E9u _ hk'))];cases hd:o.dst with
    |none=>rfl
    |some d=>
     simp only[A8w];rw[if_neg];rintro rfl
     have:=ht k (F0g ..)
     rw[A4a ho hd] at this;cases this
   ·rw[h3 d (hdst d hd).2,hd];simp[A8w]
   ·obtain⟨hg1,hg2⟩:=hg t ht;by_cases hw:∃j∈r,M7 all j t=true
    ·obtain⟨j,hj,hd⟩:=hw;rcases hlook t ht j (A2k r _ hok.2 j hj) (.inr (.inr hj)) hd with⟨h1,_⟩|⟨_,_,h2⟩
     ·exact absurd (F1p _ h1) (A3q r _ hok.2 j hj)
     ·rw[hκ0 t h2];exact hg2 ⟨j,hj,hd⟩
    ·have hne:∀k''∈r,M7 all k'' t=false:=fun k'' hk''=>by
      cases hx:M7 all k'' t with
      |false=>rfl
      |true=>exact absurd ⟨k'',hk'',hx⟩ hw
     have hkt:=hg1 hne;rw[h3 t hne] at hkt;cases hd:o.dst with
     |none=>rw[hd] at hkt;exact hkt
     |some d=>
      rw[hd] at hkt;simp only[A8w] at hkt;rw[if_neg] at hkt
      ·exact hkt
      ·rintro rfl;exact(hdst t hd).1 ht
  rcases h with⟨hn,hob,hr⟩|⟨hq,M',hM',hs',hob,hr⟩
  ·obtain⟨κ',Ms,e,h1,h2,h3,h4,h5⟩:=ih (before++[k]) _ q M hr hok.2 hm' hM hs hκ1;obtain⟨k1,k2,k3⟩:=key κ' h3;refine⟨κ',Ms,e,h1,h2,k1,h4,fun pre k' post hk'=>?_⟩;cases pre with
   |nil=>
    simp only[List.nil_append,List.cons.injEq] at hk';obtain⟨rfl,rfl⟩:=hk';exact⟨o,K,ho,k2,.inl ⟨hn,fun i' hi g hg L' hL'=>hob i' hi g (k3 i' g hg) L' hL'⟩⟩
   |cons y pre=>
    simp only[List.cons_append,List.cons.injEq] at hk';exact h5 pre k' post hk'.2
  ·obtain⟨κ',Ms,e,h1,h2,h3,h4,h5⟩:=ih (before++[k]) _ (q+1) M' hr hok.2 hm' hM' hs' hκ1;obtain⟨k1,k2,k3⟩:=key κ' h3;have hql:q<lc.length:=(E9e.1 hq).1;have hMs:∀x,q+1≤x→(fun y=>if y=q then M else Ms y) x=Ms x:=fun x hx=>if_neg (by omega)
   refine⟨κ',fun y=>if y=q then M else Ms y,if_pos rfl,?_,h2,k1,fun q' ha hb=>?_,fun pre k' post hk'=>?_⟩
   ·rw[hMs _ (by omega)];exact h1
   ·by_cases hqq:q'=q
    ·subst hqq;simp only[if_true];exact⟨hM,hs⟩
    ·simp only[if_neg hqq];exact h4 q' (by omega) hb
   ·cases pre with
    |nil=>
     simp only[List.nil_append,List.cons.injEq] at hk';obtain⟨rfl,rfl⟩:=hk';refine⟨o,K,ho,k2,.inr ⟨q,E9q _,hq,?_⟩⟩;rw[hMs _ (E9q _),e];simp only[if_true];exact fun i' hi g hg L' hL' hm=>hob i' hi g (k3 i' g hg) L' hL' hm
    |cons y pre=>
     simp only[List.cons_append,List.cons.injEq] at hk';obtain⟨o',K',g1,g2,g3⟩:=h5 pre k' post hk'.2;refine⟨o',K',g1,g2,g3.imp id ?_⟩
     rintro⟨q',g4,g5,g6⟩
     refine⟨q',by omega,g5,?_⟩;rw[hMs _ g4,hMs _ (by omega)];exact g6
theorem map_upd{f:Fr}{s:List Nat}{d:Nat}{v:Value}(h:d∉s):s.map (upd f d v)=s.map f:=
 List.map_congr_left fun t ht=>M8 _ _ (fun e=>h (e▸ht))
theorem D2u{done s:List Nat}(h:B3k all done s=true){t k:Nat}(ht:t∈s)(hk:k<all.length)(hd:M7 all k t=true):k∈done:=by
 have:=F0c.1 (F0c.1 h t ht) k (List.mem_range.2 hk)
 rw[hd] at this;simpa using this
theorem C0a{t1:Option Nat}:∀(r b:List Nat),Q2 all t1 b r=true→r.Nodup:=by
 intro r;induction r with
 |nil=>intro _ _;exact List.nodup_nil
 |cons x r ih=>
  intro b hb;simp only[Q2,E9j] at hb;exact List.nodup_cons.2 ⟨fun hin=>A3q _ _ hb.2 x hin (by simp),ih _ hb.2⟩
@[irreducible] def GM(P:Program)(all:List Oper)(n:Nat)(i0:Imm)(Inv:SH→Prop)(lc:List Nat)(Kont:Kap→Stage→Prop)(r:List Nat)(f:Fr)(F:List (Nat×(Imm→Value→Prop)))(q:Nat)(M:Stage):Prop:=
 RM0 P all n i0 Inv lc Kont r (kap f F) q M
theorem H8{f:Fr}{id:Nat}{i:Imm}{L:SH}{Q:Ex→Fr→Imm→SH→Prop}{tops:List Oper}(hm:P.follows .mixedOrders=true)(head tail lc:List Nat)(Inv:SH→Prop)(M0:Stage)(hok:(A9t all head tail []&&A5a all lc&&lc.all (head.contains ·)&&B3k all [] M0.s)=true)(hnd:lc.Nodup)(htops:A6x all tail=some tops)
 (hinv:Inv L) (hmo:M0.mono) (h0:M0.m i (M0.s.map f) L)
 (h:GM P all n i Inv lc (fun κ M=>∀g i' L',i.le i'→Inv L'→M.m i' (M.s.map g) L'→(∀t,κ t i' (g t))→RS P all n tops g i' L' fun f' i'' L''=>Q .normal f' i'' L'') head f [] 0 M0):CS P n (.region id all.toArray true) f i L Q:=by
 simp only[E9j] at hok;obtain⟨⟨⟨hrg,hch⟩,hsub⟩,hst0⟩:=hok;have hsub:∀k∈lc,k∈head:=fun k hk=>by simpa using F0c.1 hsub k hk
 have hhead:Q2 all tail.head? [] head=true:=by
  simp only[A9t,E9j] at hrg;exact hrg.1.1.1.1.1
 have hlt:=A2k _ _ hhead;unfold GM at h;obtain⟨κ,Ms,e0,hK,hmono,hsame,hstg,hob⟩:=D9z (kap f []) head [] (kap f []) 0 M0 h hhead (fun t=>E5v (fun p hp=>by cases hp) t) hmo (by simpa using hst0) (fun _ _=>rfl)
 refine B2v hm head tail hrg htops (fun s g i' L'=>Inv L'∧((∀k,s k=true→∀m,X1 all k m=true→s m=true)∧∀t,(∀k∈head,M7 all k t=true→s k=false)→g t=f t)∧(∀t,(∀k∈head,M7 all k t=true→s k=true)→κ t i' (g t))∧
  ∃q,q≤lc.length∧(∀j∈lc.take q,s j=true)∧(∀j∈lc.drop q,s j=false)∧(Ms q).m i' ((Ms q).s.map g) L') ?_ ?_ ?_
 ·refine⟨hinv,⟨fun k (hk:false=true)=>Bool.noConfusion hk,fun t _=>rfl⟩,fun t ht=>?_,0,E9k _,fun j hj=>by simp at hj,fun j _=>rfl,by rw[e0];exact h0⟩
  rw[hsame t (fun k hk=>by
   cases hx:M7 all k t with
   |false=>rfl
   |true=>have:=ht k hk hx;cases this)]
  rfl
 ·intro j hj o ho s hsj haft g i' L' hi ⟨hI,⟨hcl,hinit⟩,hκ,q,hq,htk,hdr,hMq⟩;obtain⟨pre,post,hp⟩:=F0z hj;have hop:=Z0 _ _ hhead pre j post hp;obtain⟨o',ho',hl1,_,_⟩:=A8a hop;rw[ho] at ho';cases ho'
  have hwait:∀k,X1 all j k=true→s k=true:=by
   intro k hw;obtain⟨o2,ho2,e,he,hb,hon⟩:=A5e hw;rw[ho] at ho2;cases ho2;rw[←hon];exact haft e he hb
  have hmem:∀k,k∈head→k∈[]++pre∨k=j∨k∈post:=by
   intro k hk;rw[hp] at hk;rcases E9r.1 hk with hk|hk
   ·exact .inl (by simpa using hk)
   ·rcases F0b.1 hk with rfl|hk
    ·exact .inr (.inl rfl)
    ·exact .inr (.inr hk)
  have hlook:LK all post o (kap f []) κ i' g:=by
   intro t ht;refine⟨fun hno=>hκ t fun k hk hd=>?_,fun⟨j',hj',hd'⟩=>?_⟩
   ·rcases hl1 t ht k (hlt k hk) (hmem k hk) hd with⟨_,h2⟩|⟨h1,_⟩
    ·exact hwait k h2
    ·rw[hno k h1] at hd;cases hd
   ·have hj'h:j'∈head:=by rw[hp];exact List.mem_append_right _ (E9u _ hj')
    have:g t=f t:=hinit t fun k hk hd=>by
     rcases hl1 t ht k (hlt k hk) (hmem k hk) hd with⟨h1,_⟩|⟨_,h2,_⟩
     ·rcases hl1 t ht j' (hlt j' hj'h) (.inr (.inr hj')) hd' with⟨h3,_⟩|⟨_,_,h4⟩
      ·exact absurd hj' (fun hin=>by
        have hnd':head.Nodup:=C0a _ _ hhead;rw[hp] at hnd'
        have:=(List.nodup_append.1 hnd').2.2 j' (by simpa using h3) j' (E9u _ hin)
        exact this rfl)
      ·have:=h4 k (by simpa using h1)
       rw[hd] at this;cases this
     ·cases hsk:s k with
      |false=>rfl
      |true=>have:=hcl k hsk j h2;rw[hsj] at this;cases this
    show kap f [] t i' (g t);exact this
  have hdj:∀t,o.dst=some t→M7 all j t=true:=fun t hd=>A4a ho hd
  have hdj':∀t,M7 all j t=true→o.dst=some t:=by
   intro t hd;unfold M7 at hd;simp only[ho] at hd;cases hod:o.dst with
   |none=>rw[hod] at hd;cases hd
   |some d=>rw[hod] at hd;rw[E9m hd]
  have part0:∀v,(∀k,X5 s j k=true→∀m,X1 all k m=true→X5 s j m=true)∧∀t,(∀k∈head,M7 all k t=true→X5 s j k=false)→F3 g o.dst v t=f t:=by
   intro v;refine⟨fun k hk m hw=>?_,fun t ht=>?_⟩
   ·by_cases hmj:m=j
    ·rw[hmj];exact U4 s j
    ·rw[S9 s hmj];by_cases hkj:k=j
     ·subst hkj;exact hwait m hw
     ·rw[S9 s hkj] at hk;exact hcl k hk m hw
   ·have e:F3 g o.dst v t=g t:=by
     cases hod:o.dst with
     |none=>rfl
     |some d=>
      simp only[F3];refine M8 _ _ fun e=>?_
      have:=ht j hj (by rw[e];exact A4a ho hod)
      rw[U4] at this;cases this
    rw[e];refine hinit t fun k hk hd=>?_
    have h1:=ht k hk hd;by_cases hkj:k=j
    ·subst hkj;rw[U4] at h1;cases h1
    ·rwa [S9 s hkj] at h1
  have part1:∀(K:Imm→Value→Prop)(v:Value)(i'':Imm),(∀d,o.dst=some d→κ d=K)→i'.le i''→K i'' v→∀t,(∀k∈head,M7 all k t=true→X5 s j k=true)→κ t i'' (F3 g o.dst v t):=by
   intro K v i'' hKd hi' hKv t ht;by_cases hdt:o.dst=some t
   ·rw[hdt,hKd t hdt];simp only[F3,K2];exact hKv
   ·have e:F3 g o.dst v t=g t:=by
     cases hod:o.dst with
     |none=>rfl
     |some d=>simp only[F3];exact M8 _ _ (fun e=>hdt (by rw[hod,e]))
    rw[e];refine hmono t i' i'' hi' _ (hκ t fun k hk hd=>?_);have h1:=ht k hk hd;by_cases hkj:k=j
    ·subst hkj;exact absurd (hdj' t hd) hdt
    ·rwa [S9 s hkj] at h1
  obtain⟨o',K,ho',hKd,hcase⟩:=hob pre j post hp;rw[ho] at ho';cases ho';rcases hcase with⟨hnl,hfr⟩|⟨q',_,hq',hcob⟩
  ·have hmap:∀v,(Ms q).s.map (F3 g o.dst v)=(Ms q).s.map g:=by
    intro v;cases hod:o.dst with
    |none=>rfl
    |some d=>
     refine map_upd fun hd=>hnl ?_
     have:=D2u (hstg q (E9k _) hq).2 hd (hlt j hj) (hdj d hod)
     exact F1d this
   have part2:∀(v:Value)(i'':Imm),i'.le i''→∃q,q≤lc.length∧(∀k∈lc.take q,X5 s j k=true)∧(∀k∈lc.drop q,X5 s j k=false)∧(Ms q).m i'' ((Ms q).s.map (F3 g o.dst v)) L':=by
    intro v i'' hi';refine⟨q,hq,fun k hk=>?_,fun k hk=>?_,by rw[hmap];exact(hstg q (E9k _) hq).1 i' i'' hi' _ _ hMq⟩
    ·rw[S9 s (fun e=>hnl (by rw[←e];exact F1d hk))];exact htk k hk
    ·rw[S9 s (fun e=>hnl (by rw[←e];exact F1g hk))];exact hdr k hk
   rcases hfr i' hi g hlook L' hI with⟨hg,hop⟩|⟨hg,hu⟩
   ·refine .inl ⟨hg,hop.mono ?_⟩;rintro v i'' L'' hi' ⟨rfl,hKv⟩;exact⟨hI,part0 v,part1 K v i'' hKd hi' hKv,part2 v i'' hi'⟩
   ·exact .inr ⟨hg,hI,part0 undef,part1 K undef i' hKd (Imm.le.refl _) hu,part2 undef i' (Imm.le.refl _)⟩
  ·
   have hql:q'<lc.length:=(E9e.1 hq').1
   have hqq:q'=q:=by
    rcases Nat.lt_trichotomy q' q with h1|h1|h1
    ·have:j∈lc.take q:=E9g (i:=q') (by rw[List.getElem?_take,if_pos h1];exact hq')
     have:=htk j this
     rw[hsj] at this;cases this
    ·exact h1
    ·obtain⟨x,hx⟩:∃x,lc[q'-1]?=some x:=⟨_,E9v (by omega)⟩;have hw:=A3r lc hch (q'-1) x j hx (by rw[show q'-1+1=q' by omega];exact hq');have h2:=hwait x hw
     have:x∈lc.drop q:=E9g (i:=q'-1-q) (by rw[F1e,show q+(q'-1-q)=q'-1 by omega];exact hx)
     have:=hdr x this
     rw[h2] at this;cases this
   subst hqq;obtain⟨hg,hop⟩:=hcob i' hi g hlook L' hI hMq;refine .inl ⟨hg,hop.mono ?_⟩;rintro v i'' L'' hi' ⟨hI',hM',hKv⟩;refine⟨hI',part0 v,part1 K v i'' hKd hi' hKv,q'+1,hql,fun k hk=>?_,fun k hk=>?_,hM'⟩
   ·by_cases hkj:k=j
    ·subst hkj;exact U4 s k
    ·rw[S9 s hkj];rw[List.take_add_one,hq'] at hk;rcases E9r.1 hk with hk|hk
     ·exact htk k hk
     ·exact absurd (by simpa using hk) hkj
   ·have hkj:k≠j:=by
     rintro rfl;obtain⟨x,hx⟩:=F0j.1 hk;rw[F1e] at hx
     have:=(List.getElem?_inj hql hnd).1 (hq'.trans hx.symm)
     omega
    rw[S9 s hkj];refine hdr k ?_;rw[←F1u] at hk;exact F1g hk
 ·intro g i' L' hi ⟨hI,_,hκ,q,hq,_,hdr,hMq⟩
  have hqe:q=lc.length:=by
   rcases Nat.lt_or_ge q lc.length with h1|h1
   ·have hx:lc[q]∈lc.drop q:=E9g (i:=0) (by rw[F1e,Nat.add_zero];exact E9v h1);have h2:=hdr _ hx;have h3:=hsub _ (F1g hx)
    have:head.contains lc[q]=true:=by simpa using h3
    simp only[this] at h2;cases h2
   ·omega
  subst hqe;exact hK g i' L' hi hI hMq fun t=>hκ t fun k hk _=>by simpa using hk
end
section
variable{P:Program}{all:List Oper}{n:Nat}{i0:Imm}{Inv:SH→Prop}{lc:List Nat}{Kont:Kap→Stage→Prop}{f:Fr}{F:List (Nat×(Imm→Value→Prop))}{r:List Nat}{k q:Nat}{M:Stage}
theorem B0n(hlc:lc.contains k=false):k∉lc:=by
 intro hin;have:lc.contains k=true:=by simpa using hin
 rw[this] at hlc;cases hlc
theorem E4q{o:Oper}{v:Value}(ho:all[k]?=some o)(hs:A5x o=true)(hfr:A4w F (o.looksAt all.toArray)=true)(hd:A7u F o.dst=true)(hg:P9 n f all o=true)(hlc:lc.contains k=false)
 (hv:∀i',i0.le i'→∀L',Inv L'→LV P n f i' L' o v) (h:GM P all n i0 Inv lc Kont r (F3 f o.dst v) F q M):GM P all n i0 Inv lc Kont (k::r) f F q M:=by
 unfold GM at*;refine⟨o,fun _ u=>u=v,ho,fun _ _ _ _ h=>h,.inl ⟨B0n hlc,fun i' hi g hgg L' hL'=>.inl ?_,by rw[B6p hd];exact h⟩⟩;have heq:=D6j hfr hgg;refine⟨by rw[←A1w heq];exact hg,A4j (A2m hs) (A7d heq) (M4 (v:=v) (fun w hw=>?_) ⟨rfl,rfl⟩)⟩
 have:=hv i' hi L' hL'
 unfold LV at this;exact this w hw
theorem E7{dst:Option Nat}{op:Op}{ty:TypeId}{pos:String}{B4:Array Edge}{gd:Option (Nat×Bool)}{v:Value}(hv:PV P n f ⟨dst,op,ty,pos,B4,gd⟩ v)(ho:all[k]?=some ⟨dst,op,ty,pos,B4,gd⟩)(hs:A5x ⟨dst,op,ty,pos,B4,gd⟩=true)
 (hfr:A4w F (Oper.looksAt all.toArray ⟨dst,op,ty,pos,B4,gd⟩)=true) (hd:A7u F dst=true) (hg:P9 n f all ⟨dst,op,ty,pos,B4,gd⟩=true) (hlc:lc.contains k=false)
 (h:GM P all n i0 Inv lc Kont r (F3 f dst v) F q M):GM P all n i0 Inv lc Kont (k::r) f F q M:=
 E4q ho hs hfr hd hg hlc (fun i' _ L' _=>by unfold LV;unfold PV at hv;exact fun w _=>hv w) h
theorem D7{dst:Option Nat}{op:Op}{ty:TypeId}{pos:String}{B4:Array Edge}{gd:Option (Nat×Bool)}{v:Value}(hv:∀i',i0.le i'→∀L',Inv L'→LV P n f i' L' ⟨dst,op,ty,pos,B4,gd⟩ v)(ho:all[k]?=some ⟨dst,op,ty,pos,B4,gd⟩)(hs:A5x ⟨dst,op,ty,pos,B4,gd⟩=true)
 (hfr:A4w F (Oper.looksAt all.toArray ⟨dst,op,ty,pos,B4,gd⟩)=true) (hd:A7u F dst=true) (hg:P9 n f all ⟨dst,op,ty,pos,B4,gd⟩=true) (hlc:lc.contains k=false)
 (h:GM P all n i0 Inv lc Kont r (F3 f dst v) F q M):GM P all n i0 Inv lc Kont (k::r) f F q M:=
 E4q ho hs hfr hd hg hlc hv h
theorem GM.skip{o:Oper}(ho:all[k]?=some o)(hfr:A4w F (o.looksAt all.toArray)=true)(hd:A7u F o.dst=true)(hg:P9 n f all o=false)(hlc:lc.contains k=false)
 (h:GM P all n i0 Inv lc Kont r (F3 f o.dst undef) F q M):GM P all n i0 Inv lc Kont (k::r) f F q M:=by
 unfold GM at*;refine⟨o,fun _ u=>u=undef,ho,fun _ _ _ _ h=>h,.inl ⟨B0n hlc,fun i' hi g hgg L' hL'=>.inr ⟨?_,rfl⟩,by rw[B6p hd];exact h⟩⟩;rw[←A1w (D6j hfr hgg)];exact hg
theorem C4{o:Oper}{d:Nat}(K:Imm→Value→Prop)(hmono:A4q K)(ho:all[k]?=some o)(hdst:o.dst=some d)(hs:A5x o=true)(hlc:lc.contains k=false)
 (hv:∀i',i0.le i'→∀L',Inv L'→kqs F (o.looksAt all.toArray) f i' fun g=>P9 n g all o=true∧P3 P n o g i' L' fun u i'' L''=>L''=L'∧K i'' u) (h:GM P all n i0 Inv lc Kont r f ((d,K)::F) q M):GM P all n i0 Inv lc Kont (k::r) f F q M:=by
 unfold GM at*;refine⟨o,K,ho,hmono,.inl ⟨B0n hlc,fun i' hi g hgg L' hL'=>.inl ?_,by rw[hdst,C0r];exact h⟩⟩;obtain⟨f1,⟨h1,h2⟩,heq⟩:=C2u (hv i' hi L' hL') hgg;exact⟨by rw[←A1w heq];exact h1,A4j (A2m hs) (A7d heq) h2⟩
theorem B6m{o:Oper}{v:Value}(ho:all[k]?=some o)(hs:A5x o=true)(hd:A7u F o.dst=true)(hlc:lc.contains k=false)
 (hv:∀i',i0.le i'→∀L',Inv L'→kqs F (o.looksAt all.toArray) f i' fun g=>P9 n g all o=true∧P3 P n o g i' L' fun u _ L''=>L''=L'∧u=v) (h:GM P all n i0 Inv lc Kont r (F3 f o.dst v) F q M):GM P all n i0 Inv lc Kont (k::r) f F q M:=by
 unfold GM at*;refine⟨o,fun _ u=>u=v,ho,fun _ _ _ _ h=>h,.inl ⟨B0n hlc,fun i' hi g hgg L' hL'=>.inl ?_,by rw[B6p hd];exact h⟩⟩;obtain⟨f1,⟨h1,h2⟩,heq⟩:=C2u (hv i' hi L' hL') hgg;exact⟨by rw[←A1w heq];exact h1,A4j (A2m hs) (A7d heq) h2⟩
theorem G0{o:Oper}{d:Nat}(K:Imm→Value→Prop)(M':Stage)(hmono:A4q K)(hM':M'.mono)(ho:all[k]?=some o)(hdst:o.dst=some d)(hs:A5x o=true)(hq:lc[q]?=some k)(hst:B3k all (lc.take (q+1)) M'.s=true)(hsd:M'.s.all (fun t=>E9p t d||M.s.contains t)=true)
 (hv:∀i',i0.le i'→∀L',Inv L'→∀vs,vs.length=M.s.length→M.m i' vs L'→kqs F (o.looksAt all.toArray) f i' fun g=>(∀(j t:Nat)(v:Value),M.s[j]?=some t→vs[j]?=some v→(o.looksAt all.toArray).contains t=true→g t=v)→P9 n g all o=true∧P3 P n o g i' L' fun u i'' L''=>Inv L''∧K i'' u∧M'.m i'' (M'.s.map fun t=>bif E9p t d then u else(vs[M.s.idxOf t]?).getD undef) L'')
 (h:GM P all n i0 Inv lc Kont r f ((d,K)::F) (q+1) M'):GM P all n i0 Inv lc Kont (k::r) f F q M:=by
 unfold GM at*;refine⟨o,K,ho,hmono,.inr ⟨hq,M',hM',hst,fun i' hi g hgg L' hL' hm=>?_,by rw[hdst,C0r];exact h⟩⟩;obtain⟨f1,h1,heq⟩:=C2u (hv i' hi L' hL' (M.s.map g) (by simp) hm) hgg
 obtain⟨h2,h3⟩:=h1 (fun j t v hj hv hc=>by
  rw[heq t (by simpa using hc)];rw[F0k,hj] at hv;exact Option.some.inj hv)
 refine⟨by rw[←A1w heq];exact h2,P3.mono (A4j (A2m hs) (A7d heq) h3) ?_⟩;rintro u i'' L'' _ ⟨h4,h5,h6⟩;refine⟨h4,?_,h5⟩
 have e:M'.s.map (F3 g o.dst u)=M'.s.map fun t=>bif E9p t d then u else((M.s.map g)[M.s.idxOf t]?).getD undef:=by
  refine List.map_congr_left fun t ht=>?_
  rw[hdst];simp only[F3,upd];cases hb:E9p t d with
  |true=>rfl
  |false=>
   have:=F0c.1 hsd t ht
   rw[hb,Bool.false_or] at this;have hin:t∈M.s:=by simpa using this
   have hlt:M.s.idxOf t<M.s.length:=List.idxOf_lt_length_iff.2 hin;simp only[cond_false];rw[F0k,E9v hlt,List.getElem_idxOf];rfl
 rw[e];exact h6
theorem B8h{o:Oper}(M':Stage)(hM':M'.mono)(ho:all[k]?=some o)(hdst:o.dst=none)(hs:A5x o=true)(hq:lc[q]?=some k)(hst:B3k all (lc.take (q+1)) M'.s=true)(hsd:M'.s.all (fun t=>M.s.contains t)=true)
 (hv:∀i',i0.le i'→∀L',Inv L'→∀vs,vs.length=M.s.length→M.m i' vs L'→kqs F (o.looksAt all.toArray) f i' fun g=>(∀(j t:Nat)(v:Value),M.s[j]?=some t→vs[j]?=some v→(o.looksAt all.toArray).contains t=true→g t=v)→P9 n g all o=true∧P3 P n o g i' L' fun _ i'' L''=>Inv L''∧M'.m i'' (M'.s.map fun t=>(vs[M.s.idxOf t]?).getD undef) L'')
 (h:GM P all n i0 Inv lc Kont r f F (q+1) M'):GM P all n i0 Inv lc Kont (k::r) f F q M:=by
 unfold GM at*;refine⟨o,fun _ _=>True,ho,fun _ _ _ _ h=>h,.inr ⟨hq,M',hM',hst,fun i' hi g hgg L' hL' hm=>?_,by rw[hdst];exact h⟩⟩;obtain⟨f1,h1,heq⟩:=C2u (hv i' hi L' hL' (M.s.map g) (by simp) hm) hgg
 obtain⟨h2,h3⟩:=h1 (fun j t v hj hv hc=>by
  rw[heq t (by simpa using hc)];rw[F0k,hj] at hv;exact Option.some.inj hv)
 refine⟨by rw[←A1w heq];exact h2,P3.mono (A4j (A2m hs) (A7d heq) h3) ?_⟩;rintro u i'' L'' _ ⟨h4,h6⟩;refine⟨h4,?_,trivial⟩
 have e:M'.s.map (F3 g o.dst u)=M'.s.map fun t=>((M.s.map g)[M.s.idxOf t]?).getD undef:=by
  refine List.map_congr_left fun t ht=>?_
  rw[hdst];have hin:t∈M.s:=by simpa using F0c.1 hsd t ht
  have hlt:M.s.idxOf t<M.s.length:=List.idxOf_lt_length_iff.2 hin;simp only[F3];rw[F0k,E9v hlt,List.getElem_idxOf];rfl
 rw[e];exact h6
theorem I8{i:Imm}{tops:List Oper}{K:Fr→Imm→SH→Prop}(hn:B6g F=true)(hq:q=lc.length)
 (h:∀i' L' vs,i.le i'→Inv L'→vs.length=M.s.length→M.m i' vs L'→kq F f i' fun f'=>(∀(j t:Nat)(v:Value),M.s[j]?=some t→vs[j]?=some v→f' t=v)→RS P all n tops f' i' L' K):
 GM P all n i Inv lc (fun κ M=>∀g i' L',i.le i'→Inv L'→M.m i' (M.s.map g) L'→(∀t,κ t i' (g t))→RS P all n tops g i' L' K) [] f F q M:=by
 unfold GM;refine⟨hq,fun g i' L' hi hI hm hg=>?_⟩;refine E3y F f g i' _ hn (h i' L' (M.s.map g) hi hI (by simp) hm) hg ?_;intro j t v hj hv;rw[F0k,hj] at hv;exact Option.some.inj hv
end
def stE(A:SH→Prop):Stage:=⟨[],fun _ _ L=>A L⟩
theorem G7(A:SH→Prop):(stE A).mono:=fun _ _ _ _ _ h=>h
def PtC(sz:Nat)(R:List Value→Prop)(i:Imm)(v:Value):Prop:=
 ∃b off cs t fz l,v=.pointer (some ⟨b,off,none⟩)∧i.blk b=some (.cells (E9d cs) t fz)∧l.length=sz∧(∀j u,l[j]?=some u→cs[off+j]?=some u)∧R l
theorem PtC.mono(sz:Nat)(R:List Value→Prop):A4q (PtC sz R):=by
 rintro i i' hi v ⟨b,off,cs,t,fz,l,h1,h2,h3⟩;exact⟨b,off,cs,t,fz,l,h1,hi.blk _ _ h2,h3⟩
section
variable{P:Program}{all:List Oper}{n:Nat}{i0:Imm}{Inv:SH→Prop}{lc:List Nat}{Kont:Kap→Stage→Prop}{f:Fr}{F:List (Nat×(Imm→Value→Prop))}{r:List Nat}{k q:Nat}
theorem F9{id:Nat}{i:Imm}{L:SH}{Q:Ex→Fr→Imm→SH→Prop}{tops:List Oper}(hm:P.follows .mixedOrders=true)(head tail lc:List Nat)(Inv A:SH→Prop)(hok:(A9t all head tail []&&A5a all lc&&lc.all (head.contains ·)&&B3k all [] [])=true)(hnd:lc.Nodup)(htops:A6x all tail=some tops)
 (hinv:Inv L) (h0:A L)
 (h:GM P all n i Inv lc (fun κ M=>∀g i' L',i.le i'→Inv L'→M.m i' (M.s.map g) L'→(∀t,κ t i' (g t))→RS P all n tops g i' L' fun f' i'' L''=>Q .normal f' i'' L'') head f [] 0 (stE A)):CS P n (.region id all.toArray true) f i L Q:=
 H8 hm head tail lc Inv (stE A) hok hnd htops hinv (G7 A) h0 h
theorem I6{o:Oper}{d:Nat}{A:SH→Prop}(K:Imm→Value→Prop)(B:SH→Prop)(hmono:A4q K)(ho:all[k]?=some o)(hdst:o.dst=some d)(hs:A5x o=true)(hq:lc[q]?=some k)
 (hv:∀i',i0.le i'→∀L',Inv L'→A L'→kqs F (o.looksAt all.toArray) f i' fun g=>P9 n g all o=true∧P3 P n o g i' L' fun u i'' L''=>Inv L''∧K i'' u∧B L'')
 (h:GM P all n i0 Inv lc Kont r f ((d,K)::F) (q+1) (stE B)):GM P all n i0 Inv lc Kont (k::r) f F q (stE A):=by
 refine G0 K (stE B) hmono (G7 B) ho hdst hs hq rfl rfl (fun i' hi L' hL' vs _ hm=>?_) h;have h1:=hv i' hi L' hL' hm
 have mon:∀(ts:List Nat)(f0:Fr)(R R':Fr→Prop),(∀g,R g→R' g)→kqs F ts f0 i' R→kqs F ts f0 i' R':=by
  intro ts;induction ts with
  |nil=>intro f0 R R' h1 h2;exact h1 _ h2
  |cons t ts ih=>
   intro f0 R R' h1 h2;simp only[kqs] at h2⊢;split at h2
   ·rename_i K0 hK0;exact fun v hv=>ih _ _ _ h1 (h2 v hv)
   ·rename_i hK0;exact ih _ _ _ h1 h2
 exact mon _ _ _ _ (fun g h2 _=>h2) h1
theorem G1{i:Imm}{tops:List Oper}{K:Fr→Imm→SH→Prop}{A:SH→Prop}(hn:B6g F=true)(hq:q=lc.length)
 (h:∀i' L',i.le i'→Inv L'→A L'→kq F f i' fun f'=>RS P all n tops f' i' L' K):
 GM P all n i Inv lc (fun κ M=>∀g i' L',i.le i'→Inv L'→M.m i' (M.s.map g) L'→(∀t,κ t i' (g t))→RS P all n tops g i' L' K) [] f F q (stE A):=by
 refine I8 hn hq fun i' L' vs hi hI _ hm=>?_
 have h1:=h i' L' hi hI hm
 have mon:∀(F:List (Nat×(Imm→Value→Prop)))(f0:Fr)(R R':Fr→Prop),(∀g,R g→R' g)→kq F f0 i' R→kq F f0 i' R':=by
  intro F;induction F with
  |nil=>intro f0 R R' h1 h2;exact h1 _ h2
  |cons p F ih=>intro f0 R R' h1 h2;exact fun v hv=>ih _ _ _ h1 (h2 v hv)
 exact mon _ _ _ _ (fun g h2 _=>h2) h1
theorem S8{T:F7}(hT:T.ok P)(sz:Nat){d t len e:Nat}{parts:Array (Nat×Operand)}{cs:List Value}{ty:TypeId}{pos:String}{B4:Array Edge}{gd:Option (Nat×Bool)}{M:Stage}(h0:bsl T n f t len parts.toList=some (e,cs))(hl:cs.length=len*sz)(ho:all[k]?=some ⟨some d,.buildSlice t len parts,ty,pos,B4,gd⟩)(hfr:A4w F (Oper.looksAt all.toArray ⟨some d,.buildSlice t len parts,ty,pos,B4,gd⟩)=true)(hg:P9 n f all ⟨some d,.buildSlice t len parts,ty,pos,B4,gd⟩=true)(hlc:lc.contains k=false)
 (h:GM P all n i0 Inv lc Kont r f ((d,fun i v=>∃b,v=.slice (some ⟨b,0,none⟩) len len∧Sl i v sz len cs)::F) q M):GM P all n i0 Inv lc Kont (k::r) f F q M:=by
 refine C4 _ (fun i i' hi v ⟨b,h1,h2⟩=>⟨b,h1,h2.le hi⟩) ho rfl rfl hlc (fun i' hi L' hL'=>?_) h
 have hfree:∀(ts:List Nat)(f0:Fr)(R:Fr→Prop),A4w F ts=true→R f0→kqs F ts f0 i' R:=by
  intro ts;induction ts with
  |nil=>intro f0 R _ h;exact h
  |cons t ts ih=>
   intro f0 R hf h;simp only[A4w,List.all_cons,E9j] at hf;simp only[kqs];split
   ·rename_i K hK;rw[hK] at hf;cases hf.1
   ·exact ih f0 R hf.2 h
 refine hfree _ f _ hfr ⟨hg,P3.mono (H9 (sz:=sz) hT h0 hl) ?_⟩;rintro v i'' L'' _ ⟨rfl,b,rfl,hs⟩;exact⟨rfl,b,rfl,hs⟩
end
section
variable{P:Program}{n:Nat}{f:Fr}{i:Imm}{L:SH}{dst:Option Nat}{ty:TypeId}{pos:String}{B4:Array Edge}{gd:Option (Nat×Bool)}{T:F7}
theorem A7x(hT:T.ok P){t sz len:Nat}{x y:Operand}{v:Value}{xs:List Value}{j:Int}{kd:IntKind}(R:List Value→Prop)(hx:ev n f x=v)(hy:ev n f y=.int kd j)(hs:A3v T t=some sz)(hsz:0<sz)(hv:Sl i v sz len xs)(hj:0≤j∧j<len)(hR:R ((xs.drop (j.toNat*sz)).take sz)):
 P3 P n ⟨dst,.indexAddr t x y,ty,pos,B4,gd⟩ f i L fun u i'' L''=>L''=L∧PtC sz R i'' u:=by
 obtain⟨b,o,cs,tt,fz,cap,rfl,h2,h3⟩:=hv.at (k:=j.toNat) (by omega) hsz;obtain⟨ao,cap',e1,hlen,_⟩:=hv;refine P3.mono (H4 (A9 hT hx hy hs hj)) ?_;rintro u i'' L'' hi ⟨rfl,rfl⟩
 have hle:j.toNat*sz+sz≤xs.length:=by
  have:=Nat.mul_le_mul_right sz (show j.toNat+1≤len by omega)
  rw[F1f,Nat.one_mul] at this;omega
 refine⟨rfl,b,_,cs,tt,fz,_,rfl,hi.blk _ _ h2,by simp;omega,fun m w hm=>?_,hR⟩;rw[List.getElem?_take] at hm;split at hm
 ·rename_i hlt;rw[F1e] at hm
  have:=h3 m hlt
  rw[show((j.toNat:Nat):Int)=j by omega] at this;rw[this,hm]
 ·cases hm
theorem A7w(hT:T.ok P){t:Nat}{x:Operand}{v:Value}{sz:Nat}{R:List Value→Prop}(hx:ev n f x=v)(ht:R5 T (fun d=> !K4 d) t=true)(h:PtC sz R i v)(hsz:0<sz):
 P3 P n ⟨dst,.load t x,ty,pos,B4,gd⟩ f i L fun u i'' L''=>L''=L∧∃l,l[0]?=some u∧R l∧l.length=sz:=by
 obtain⟨b,off,cs,tt,fz,l,rfl,h2,h3,h4,h5⟩:=h;obtain⟨u,hu⟩:∃u,l[0]?=some u:=⟨_,E9v (by omega)⟩;refine P3.mono (C3d (B2 hT hx (Has.imm h2) ht (h4 0 u hu))) ?_;rintro w i'' L'' hi ⟨rfl,rfl⟩;exact⟨rfl,l,hu,h5,h3⟩
theorem P3.fld(hT:T.ok P){s fld off sz:Nat}{x:Operand}{v:Value}{R:List Value→Prop}(hx:ev n f x=v)(ho:E2y T s fld=some off)(h:PtC sz R i v)(hsz:off<sz):
 P3 P n ⟨dst,.fieldAddr s x fld,ty,pos,B4,gd⟩ f i L fun u i'' L''=>L''=L∧PtC (sz-off) (fun l=>∃l0,R l0∧l=l0.drop off) i'' u:=by
 obtain⟨b,o,cs,tt,fz,l,rfl,h2,h3,h4,h5⟩:=h;refine P3.mono (H4 (A5r hT hx ho)) ?_;rintro w i'' L'' hi ⟨rfl,rfl⟩;refine⟨rfl,b,_,cs,tt,fz,l.drop off,rfl,hi.blk _ _ h2,by simp;omega,fun j u hj=>?_,l,h5,rfl⟩;rw[F1e] at hj;rw[Nat.add_assoc];exact h4 _ u hj
end
section
variable{P:Program}{all:List Oper}{n:Nat}{r:List Oper}{f:Fr}{i:Imm}{L:SH}{K:Fr→Imm→SH→Prop}{dst:Option Nat}{ty:TypeId}{pos:String}{B4:Array Edge}{gd:Option (Nat×Bool)}
theorem H7{op:Op}{G3:Value→Imm→SH→Prop}(h:P3 P n ⟨dst,op,ty,pos,B4,gd⟩ f i L G3)(hg:P9 n f all ⟨dst,op,ty,pos,B4,gd⟩=true)(k:∀v i' L',i.le i'→G3 v i' L'→RS P all n r (F3 f dst v) i' L' K):RS P all n (⟨dst,op,ty,pos,B4,gd⟩::r) f i L K:=
 K5 hg (P3.mono h k)
end
end Go.Eng
namespace Go.Eng
open Go
theorem J2.shape{e:TypeId}{v:Value}{sz n:Nat}{xs:List Value}{O:SH}(h:J2 e v sz n xs O):∃ao cap,v=.slice ao n cap:=by
 obtain⟨_,⟨rfl,rfl,rfl⟩|⟨g,cap,sp,rfl,_,_,_⟩⟩:=h
 ·exact⟨none,0,rfl⟩
 ·exact⟨_,cap,rfl⟩
section
variable{P:Program}{all:List Oper}{n:Nat}{r:List Oper}{f:Fr}{i:Imm}{L:SH}{K:Fr→Imm→SH→Prop}{dst:Option Nat}{ty:TypeId}{pos:String}{B4:Array Edge}{gd:Option (Nat×Bool)}{T:F7}{v:Value}
theorem P2(hT:T.ok P){t e sz bytes:Nat}{x y:Operand}{u:Value}{k m:Nat}{xs news:List Value}{O L0:SH}(hg:P9 n f all ⟨dst,.call ⟨.builtin .append,#[x,y],#[t,t]⟩,ty,pos,B4,gd⟩=true)(hx:ev n f x=v)(hy:ev n f y=u)
 (hv:J2 e v sz k xs O) (hu:Rd i (O++L0) u sz m news) (hte:∃d,D6 T t=some d∧d.desc=.slice e) (hee:∃d,D6 T e=some d∧d.size=sz∧d.bytes=bytes) (hsz:0<sz) (hone:∀c∈news,c.oneCell'=true) (hmax:(k+m)*bytes≤140737488355328) (hmax2:k+m≤9223372036854775807)
 (h:∀ao cap O',J2 e (.slice ao (k+m) cap) sz (k+m) (xs++news) O'→RS P all n r (F3 f dst (.slice ao (k+m) cap)) i (O'++L0) K):RS P all n (⟨dst,.call ⟨.builtin .append,#[x,y],#[t,t]⟩,ty,pos,B4,gd⟩::r) f i (O++L0) K:=by
 refine B2q hT hg hx hy hte hee hsz hv rfl hu hone hmax hmax2 ?_;intro v' O' hO _;obtain⟨ao,cap,rfl⟩:=hO.shape;exact h ao cap O' hO
theorem A1q(hT:T.ok P){t e sz bytes:Nat}{x y:Operand}{u:Value}{k m:Nat}{xs news:List Value}{O L0:SH}(hx:ev n f x=v)(hy:ev n f y=u)
 (hv:J2 e v sz k xs O) (hu:Rd i (O++L0) u sz m news) (hte:∃d,D6 T t=some d∧d.desc=.slice e) (hee:∃d,D6 T e=some d∧d.size=sz∧d.bytes=bytes) (hsz:0<sz) (hone:∀c∈news,c.oneCell'=true) (hmax:(k+m)*bytes≤140737488355328) (hmax2:k+m≤9223372036854775807):
 P3 P n ⟨dst,.call ⟨.builtin .append,#[x,y],#[t,t]⟩,ty,pos,B4,gd⟩ f i (O++L0) fun v' i' L'=>i'=i∧∃ao cap O',v'=.slice ao (k+m) cap∧J2 e v' sz (k+m) (xs++news) O'∧L'=O'++L0:=by
 refine B9e hT hx hy hte hee hsz hv rfl hu hone hmax hmax2 ?_;intro v' O' hO _;obtain⟨ao,cap,rfl⟩:=hO.shape;exact⟨rfl,ao,cap,O',rfl,hO,rfl⟩
end
theorem A7n{P:Program}{g:FuncId}{args:List Value}{i:Imm}{L:SH}{X:Type}{e:TypeId}{sz:Nat}{φ:X→Value→Imm→Nat→List Value→Prop}{B:X→SH}(hmono:∀x v i i' n xs,Imm.le i i'→φ x v i n xs→φ x v i' n xs)
 (h:E6 P g args i L fun v i' L'=>∃x n xs O,φ x v i' n xs∧J2 e v sz n xs O∧L'=O++B x):E6 P g args i L fun v i' L'=>∃x n xs,φ x v i' n xs∧Sl i' v sz n xs∧L'=B x:=by
 refine E6.state h ?_;rintro v i' L' w _ hs ⟨x,n,xs,O,h1,h2,rfl⟩;obtain⟨i'',h3,h4,h5⟩:=h2.freeze hs;exact⟨i'',_,h3,h4,x,n,xs,hmono _ _ _ _ _ _ h3 h1,h5,rfl⟩
theorem F4{cs:List Value}(h:cs.all (·.oneCell')=true):∀c∈cs,c.oneCell'=true:=F0c.1 h
theorem St.dropMid{i:Imm}{A G R:SH}{w:World}(h:St i (A++(G++R)) w):St i (A++R) w:=
 (h.perm (E9x A G R)).dropL
theorem B0e{P:Program}{all:List Oper}{n:Nat}{r:List Oper}{f:Fr}{i:Imm}{K:Fr→Imm→SH→Prop}(A G R:SH)(h:RS P all n r f i (A++R) K):RS P all n r f i (A++(G++R)) K:=
 A2g fun _ hw=>⟨i,A++R,Imm.le.refl i,hw.dropMid,h⟩
theorem Rd.ahead{i:Imm}{L:SH}{v:Value}{sz n:Nat}{xs:List Value}(A:SH)(h:Rd i L v sz n xs):Rd i (A++L) v sz n xs:=by
 obtain⟨ao,cap,h1,h2,h3⟩:=h;refine⟨ao,cap,h1,h2,h3.imp id ?_⟩
 rintro⟨b,o,cs,t,fz,h4,h5,h6⟩
 exact⟨b,o,cs,t,fz,h4,h5.imp id (fun h=>List.mem_append_right _ h),h6⟩
section
variable{P:Program}{n:Nat}{f:Fr}{dst:Option Nat}{ty:TypeId}{pos:String}{B4:Array Edge}{gd:Option (Nat×Bool)}{T:F7}
theorem K6(hT:T.ok P){t l h:Nat}{s:ByteArray}{x:Operand}{lo hi:Option Operand}(hx:ev n f x=.string s)(hs:R5 T P1 t=true)(hlo:(lo=none∧l=0)∨∃y k,lo=some y∧ev n f y=.int k (l:Int))(hhi:(hi=none∧h=s.size)∨∃y k,hi=some y∧ev n f y=.int k (h:Int))(h1:l≤h)(h2:h≤s.size):
 PV P n f ⟨dst,.slice t x lo hi none,ty,pos,B4,gd⟩ (.string (s.extract l h)):=by
 unfold PV;intro w;have g1:=B5d hT hs;have a1:(0:Int)≤(l:Int)∧(l:Int)≤(h:Int):=by omega
 have a2:(0:Int)≤(h:Int)∧(h:Int)≤(s.size:Int):=by omega
 have a3:(0:Int)≤(h:Int):=by omega
 have a4:(0:Int)≤(l:Int):=by omega
 rcases hlo with⟨rfl,hl0⟩|⟨y1,k1,rfl,hy1⟩<;>rcases hhi with⟨rfl,hh0⟩|⟨y2,k2,rfl,hy2⟩
 all_goals simp_all [execOp,F1a,F1v,F0v,F1c,asIntOf,run_underlying g1]
theorem M2{t t2:Nat}{x y:Operand}{p q:ByteArray}(hx:ev n f x=.string p)(hy:ev n f y=.string q)(h:p.size+q.size≤9223372036854775807):PV P n f ⟨dst,.binOp .add t x y t2,ty,pos,B4,gd⟩ (.string (p++q)):=by
 unfold PV;intro w;simp only[execOp,hx,hy,eqGuard,binOp,Op.stringOp];simp;omega
theorem byte_at{s:ByteArray}{j:Nat}(h:j<s.size):∃b:UInt8,s[j]?=some b:=⟨s[j],by simp[h]⟩
end
section
variable{P:Program}{all:List Oper}{n:Nat}{r:List Oper}{f:Fr}{i:Imm}{L:SH}{K:Fr→Imm→SH→Prop}{dst:Option Nat}{ty:TypeId}{pos:String}{B4:Array Edge}{gd:Option (Nat×Bool)}{T:F7}{s p q:ByteArray}{t t2:Nat}{x y z:Operand}{j m:Int}{k k2:IntKind}
theorem P8(hT:T.ok P)(hg:P9 n f all ⟨dst,.index t x y,ty,pos,B4,gd⟩=true)(hx:ev n f x=.string s)(hy:ev n f y=.int k j)(ht:R5 T P1 t=true)(hj:0≤j∧j<s.size)
 (h:∀b:Int,0≤b→b<256→RS P all n r (F3 f dst (.int .u8 b)) i L K):RS P all n (⟨dst,.index t x y,ty,pos,B4,gd⟩::r) f i L K:=by
 obtain⟨b,hb⟩:=byte_at (s:=s) (j:=j.toNat) (by omega);exact A6 (A4h hT hx hy ht hj.1 hb) hg (h _ (by omega) (by have:=b.toNat_lt;omega))
theorem B8b(hT:T.ok P)(hg:P9 n f all ⟨dst,.slice t x (some y) none none,ty,pos,B4,gd⟩=true)(hx:ev n f x=.string s)(hy:ev n f y=.int k j)(ht:R5 T P1 t=true)(hj:0≤j∧j≤s.size)
 (h:∀s':ByteArray,(s'.size:Int)=s.size-j→RS P all n r (F3 f dst (.string s')) i L K):RS P all n (⟨dst,.slice t x (some y) none none,ty,pos,B4,gd⟩::r) f i L K:=
 A6 (K6 hT (l:=j.toNat) (h:=s.size) hx ht (.inr ⟨y,k,rfl,by rw[hy];congr 1;omega⟩) (.inl ⟨rfl,rfl⟩) (by omega) (E9q _)) hg (h _ (by rw[F0f];omega))
theorem C9q(hT:T.ok P)(hg:P9 n f all ⟨dst,.slice t x none (some y) none,ty,pos,B4,gd⟩=true)(hx:ev n f x=.string s)(hy:ev n f y=.int k j)(ht:R5 T P1 t=true)(hj:0≤j∧j≤s.size)
 (h:∀s':ByteArray,(s'.size:Int)=j→RS P all n r (F3 f dst (.string s')) i L K):RS P all n (⟨dst,.slice t x none (some y) none,ty,pos,B4,gd⟩::r) f i L K:=
 A6 (K6 hT (l:=0) (h:=j.toNat) hx ht (.inl ⟨rfl,rfl⟩) (.inr ⟨y,k,rfl,by rw[hy];congr 1;omega⟩) (by omega) (by omega)) hg (h _ (by rw[F0f];omega))
theorem E7f(hT:T.ok P)(hg:P9 n f all ⟨dst,.slice t x (some y) (some z) none,ty,pos,B4,gd⟩=true)(hx:ev n f x=.string s)(hy:ev n f y=.int k j)(hz:ev n f z=.int k2 m)(ht:R5 T P1 t=true)(hj:0≤j∧j≤m∧m≤s.size)
 (h:∀s':ByteArray,(s'.size:Int)=m-j→RS P all n r (F3 f dst (.string s')) i L K):RS P all n (⟨dst,.slice t x (some y) (some z) none,ty,pos,B4,gd⟩::r) f i L K:=
 A6 (K6 hT (l:=j.toNat) (h:=m.toNat) hx ht (.inr ⟨y,k,rfl,by rw[hy];congr 1;omega⟩) (.inr ⟨z,k2,rfl,by rw[hz];congr 1;omega⟩) (by omega) (by omega)) hg (h _ (by rw[F0f];omega))
theorem D7h(hg:P9 n f all ⟨dst,.binOp .add t x y t2,ty,pos,B4,gd⟩=true)(hx:ev n f x=.string p)(hy:ev n f y=.string q)(hs:p.size+q.size≤9223372036854775807)
 (h:∀s':ByteArray,s'.size=p.size+q.size→RS P all n r (F3 f dst (.string s')) i L K):RS P all n (⟨dst,.binOp .add t x y t2,ty,pos,B4,gd⟩::r) f i L K:=
 A6 (M2 hx hy hs) hg (h _ (F0a ..))
theorem QS.idxT{K:Fr→Prop}(hT:T.ok P)(hg:P9 n f all ⟨dst,.index t x y,ty,pos,B4,gd⟩=true)(hx:ev n f x=.string s)(hy:ev n f y=.int k j)(ht:R5 T P1 t=true)(hj:0≤j∧j<s.size)
 (h:∀b:Int,0≤b→b<256→QS P all n r (F3 f dst (.int .u8 b)) i L K):QS P all n (⟨dst,.index t x y,ty,pos,B4,gd⟩::r) f i L K:=by
 obtain⟨b,hb⟩:=byte_at (s:=s) (j:=j.toNat) (by omega);exact D3 (A4h hT hx hy ht hj.1 hb) hg (h _ (by omega) (by have:=b.toNat_lt;omega))
theorem C9{g:FuncId}{as:Array Operand}{ts:Array TypeId}{vs:List Value}(R:Bool→Imm→SH→Prop)(h:E6 P g vs i L fun v i' L'=>∃b,v=.bool b∧R b i' L')(hg:P9 n f all ⟨dst,.call ⟨.value (.func g),as,ts⟩,ty,pos,B4,gd⟩=true)(hf:Z2 P g=true)
 (ha:as.toList.map (ev n f)=vs) (hT:∀i' L',i.le i'→R true i' L'→RS P all n r (F3 f dst (.bool true)) i' L' K) (hF:∀i' L',i.le i'→R false i' L'→RS P all n r (F3 f dst (.bool false)) i' L' K):RS P all n (⟨dst,.call ⟨.value (.func g),as,ts⟩,ty,pos,B4,gd⟩::r) f i L K:=by
 refine A7 h hg hf ha ?_;rintro v i' L' hi ⟨b,rfl,hb⟩;cases b
 ·exact hF i' L' hi hb
 ·exact hT i' L' hi hb
end
theorem A9m{P:Program}{g:FuncId}{fn:Func}{c:Code}{args:List Value}{i:Imm}{L:SH}{G3:Value→Imm→SH→Prop}{n r s t:Nat}
 (hf:P.funcs[g]?=some fn) (hb:fn.body=some c) (hn:fn.ntmps=n) (hl:args.length≤n) (hres:fn.results=#[.tmp r,.tmp s,.tmp t])
 (h:CS P n c (A6g 0 args) i L (A6k fun f i' L'=>G3 (.tuple #[ev n f (.tmp r),ev n f (.tmp s),ev n f (.tmp t)]) i' L')):E6 P g args i L G3:=
 E6.body hf hb hn hl _ (fun f i' L' w _ k=>⟨_,by simp only[results,hres];simp[evt],k⟩) h
theorem E6.drop{P:Program}{g:FuncId}{args:List Value}{i:Imm}{L:SH}{φ:Value→Imm→Prop}(h:E6 P g args i L fun v i' L'=>∃G,φ v i'∧L'=G++L):E6 P g args i L fun v i' L'=>φ v i'∧L'=L:=by
 refine E6.state h ?_;rintro v i' L' w _ hs ⟨G,h1,rfl⟩;exact⟨i',L,Imm.le.refl i',hs.dropL,h1,rfl⟩
section
variable{P:Program}{n:Nat}{f:Fr}{i:Imm}{L:SH}{dst:Option Nat}{ty:TypeId}{pos:String}{B4:Array Edge}{gd:Option (Nat×Bool)}{T:F7}
theorem J2.block{e:TypeId}{g cap m sz:Nat}{xs:List Value}{O:SH}(h:J2 e (.slice (some ⟨g,0,none⟩) m cap) sz m xs O):∃sp:List Value,O=[(g,.cells (xs++sp).toArray e (0,0))]∧(xs++sp).length=cap*sz∧m≤cap:=by
 obtain⟨_,⟨h1,_⟩|⟨g',cap',sp,h1,h2,h3,h4⟩⟩:=h
 ·cases h1
 ·cases h1;exact⟨sp,h4,h3,h2⟩
theorem J2.setAt{e:TypeId}{g cap m sz off:Nat}{xs sp:List Value}{u:Value}(h:J2 e (.slice (some ⟨g,0,none⟩) m cap) sz m xs [(g,.cells (xs++sp).toArray e (0,0))])(ho:off<xs.length):
 J2 e (.slice (some ⟨g,0,none⟩) m cap) sz m (xs.set off u) [(g,.cells (xs.set off u++sp).toArray e (0,0))]:=by
 obtain⟨h1,⟨h2,_⟩|⟨g',cap',sp',h2,h3,h4,h5⟩⟩:=h
 ·cases h2
 ·cases h2
  have e1:(xs++sp)=xs++sp':=by
   have:=(List.cons.inj h5).1
   have:=congrArg Prod.snd this
   simp only[E9n.injEq] at this;exact Array.toList_inj.2 this.1 |> fun h=>by simpa using h
  have e2:sp=sp':=List.append_cancel_left e1;subst e2;exact⟨by rw[List.length_set];exact h1,.inr ⟨g,cap,sp,rfl,h3,by rw[E9h,List.length_set,←E9h];exact h4,rfl⟩⟩
theorem B9c(hT:T.ok P){t e g cap m sz off:Nat}{x y:Operand}{xs:List Value}{u:Value}{O L0:SH}(hv:J2 e (.slice (some ⟨g,0,none⟩) m cap) sz m xs O)(hx:ev n f x=.pointer (some ⟨g,off,none⟩))(hy:ev n f y=u)(hc:M5 u=some [u])(hok:R8 T t [u]=true)(ho:off<xs.length):
 P3 P n ⟨dst,.store t x y,ty,pos,B4,gd⟩ f i (O++L0) fun _ i' L'=>i'=i∧∃O',J2 e (.slice (some ⟨g,0,none⟩) m cap) sz m (xs.set off u) O'∧L'=O'++L0:=by
 obtain⟨sp,rfl,h1,h2⟩:=hv.block;have hlt:off<(xs++sp).length:=by rw[E9h];omega
 have hp:U9 (xs++sp) off [u]=some ((xs++sp).set off u):=by
  simp only[U9,U2 _ _ u _ (E9v hlt)]
 refine J0 (k:=0) (cs:=xs++sp) hT hx hy hc rfl hok hp rfl ?_;rw[List.set_append_left _ _ ho];exact⟨rfl,_,hv.setAt ho,rfl⟩
end
section
variable{P:Program}{all:List Oper}{n:Nat}{i0:Imm}{Inv:SH→Prop}{lc:List Nat}{Kont:Kap→Stage→Prop}{f:Fr}{F:List (Nat×(Imm→Value→Prop))}{r:List Nat}{k q:Nat}
theorem B7a{i':Imm}:∀(ts:List Nat)(f0:Fr)(R R':Fr→Prop),(∀g,R g→R' g)→kqs F ts f0 i' R→kqs F ts f0 i' R'
 |[],f0,R,R',h1,h2=>h1 _ h2
 |t::ts,f0,R,R',h1,h2=>by
  simp only[kqs] at h2⊢;split at h2
  ·rename_i K0 hK0;exact fun v hv=>B7a ts _ _ _ h1 (h2 v hv)
  ·rename_i hK0;exact B7a ts _ _ _ h1 h2
theorem P5{o:Oper}{A:SH→Prop}(B:SH→Prop)(ho:all[k]?=some o)(hdst:o.dst=none)(hs:A5x o=true)(hq:lc[q]?=some k)
 (hv:∀i',i0.le i'→∀L',Inv L'→A L'→kqs F (o.looksAt all.toArray) f i' fun g=>P9 n g all o=true∧P3 P n o g i' L' fun _ _ L''=>Inv L''∧B L'')
 (h:GM P all n i0 Inv lc Kont r f F (q+1) (stE B)):GM P all n i0 Inv lc Kont (k::r) f F q (stE A):=
 B8h (stE B) (G7 B) ho hdst hs hq rfl rfl (fun i' hi L' hL' _ _ hm=>B7a _ _ _ _ (fun _ h2 _=>h2) (hv i' hi L' hL' hm)) h
end
section
variable{P:Program}{n:Nat}{f:Fr}{i:Imm}{L:SH}{dst:Option Nat}{ty:TypeId}{pos:String}{B4:Array Edge}{gd:Option (Nat×Bool)}{T:F7}
theorem D2n{t t2:Nat}{x:Operand}(hT:T.ok P){a:Int}{k:IntKind}(hs:∃d,D6 T t=some d)(hd:∃d,D6 T t2=some d∧d.desc=.int .i64)(hx:ev n f x=.int k a)(h: -9223372036854775808≤a∧a≤9223372036854775807):PV P n f ⟨dst,.convert t t2 x,ty,pos,B4,gd⟩ (.int .i64 a):=by
 obtain⟨d1,h1⟩:=hs;obtain⟨d2,h2,h3⟩:=hd;have u1:=(B6 hT h1).und;have u2:=(B6 hT h2).und;rw[h3] at u2;unfold PV;intro w;simp[execOp,hx,convert,run_underlying u1,run_underlying u2,Conv.intToInt,A9y _ h]
theorem B8g{o:Oper}{L':SH}{K:Value→Imm→SH→Prop}(hp:L.Perm L')(h:P3 P n o f i L' K):P3 P n o f i L K:=by
 unfold P3 at*;exact fun w hw=>h w (hw.perm hp)
theorem B9d{o:Oper}{O L0:SH}{φ:Value→Imm→SH→Prop}(A:SH)(h:P3 P n o f i (O++(A++L0)) fun v i' L'=>∃O',φ v i' O'∧L'=O'++(A++L0)):P3 P n o f i (A++(O++L0)) fun v i' L'=>∃O',φ v i' O'∧L'=A++(O'++L0):=by
 refine A8f (B8g (E9x A O L0) h) ?_;rintro v i' L' w _ hs ⟨O',h1,rfl⟩;exact⟨i',_,Imm.le.refl i',hs.perm (E9x _ _ _),O',h1,rfl⟩
theorem D8(A:SH)(hT:T.ok P){t e sz bytes:Nat}{x y:Operand}{u v:Value}{k m:Nat}{xs news:List Value}{O L0:SH}(hx:ev n f x=v)(hy:ev n f y=u)
 (hv:J2 e v sz k xs O) (hu:Rd i (O++(A++L0)) u sz m news) (hte:∃d,D6 T t=some d∧d.desc=.slice e) (hee:∃d,D6 T e=some d∧d.size=sz∧d.bytes=bytes) (hsz:0<sz) (hone:∀c∈news,c.oneCell'=true) (hmax:(k+m)*bytes≤140737488355328) (hmax2:k+m≤9223372036854775807):
 P3 P n ⟨dst,.call ⟨.builtin .append,#[x,y],#[t,t]⟩,ty,pos,B4,gd⟩ f i (A++(O++L0)) fun v' i' L'=>∃O',(∃ao cap,v'=.slice ao (k+m) cap∧J2 e v' sz (k+m) (xs++news) O')∧L'=A++(O'++L0):=by
 refine B9d (φ:=fun v' _ O'=>∃ao cap,v'=.slice ao (k+m) cap∧J2 e v' sz (k+m) (xs++news) O') A ?_;refine P3.mono (A1q hT hx hy hv hu hte hee hsz hone hmax hmax2) ?_;rintro v' i' L' _ ⟨_,ao,cap,O',h1,h2,h3⟩;exact⟨O',⟨ao,cap,h1,h2⟩,h3⟩
theorem A5g(A:SH)(hT:T.ok P){t e g cap m sz off:Nat}{x y:Operand}{xs:List Value}{u:Value}{O L0:SH}(hv:J2 e (.slice (some ⟨g,0,none⟩) m cap) sz m xs O)(hx:ev n f x=.pointer (some ⟨g,off,none⟩))(hy:ev n f y=u)(hc:M5 u=some [u])(hok:R8 T t [u]=true)(ho:off<xs.length):
 P3 P n ⟨dst,.store t x y,ty,pos,B4,gd⟩ f i (A++(O++L0)) fun _ i' L'=>∃O',J2 e (.slice (some ⟨g,0,none⟩) m cap) sz m (xs.set off u) O'∧L'=A++(O'++L0):=by
 refine B9d (φ:=fun _ _ O'=>J2 e (.slice (some ⟨g,0,none⟩) m cap) sz m (xs.set off u) O') A ?_;refine P3.mono (B9c hT hv hx hy hc hok ho) ?_;rintro v' i' L' _ ⟨_,O',h1,h2⟩;exact⟨O',h1,h2⟩
theorem H1(hT:T.ok P){t t' b off k:Nat}{x y:Operand}{cs:List Value}{u:Value}(hx:ev n f x=.pointer (some ⟨b,off,none⟩))(hy:ev n f y=u)(hc:M5 u=some [u])(hk:L[k]?=some (b,.cells cs.toArray t' (0,0)))(hok:R8 T t [u]=true)(ho:off<cs.length):
 P3 P n ⟨dst,.store t x y,ty,pos,B4,gd⟩ f i L fun _ i' L'=>i'=i∧L'=L.set k (b,.cells (cs.set off u).toArray t' (0,0)):=by
 have hp:U9 cs off [u]=some (cs.set off u):=by
  simp only[U9,U2 _ _ u _ (E9v ho)]
 exact J0 hT hx hy hc hk hok hp (U2 _ _ _ _ hk) ⟨rfl,rfl⟩
end
section
variable{P:Program}{all:List Oper}{n:Nat}{r:List Oper}{f:Fr}{i:Imm}{L:SH}{K:Fr→Imm→SH→Prop}{dst:Option Nat}{ty:TypeId}{pos:String}{B4:Array Edge}{gd:Option (Nat×Bool)}{T:F7}{s:ByteArray}{t:Nat}{x y:Operand}{j:Int}{k:IntKind}
end
def W8(cs:List Value):Prop:=∀c∈cs,∃b,c=.bool b
theorem W8.set{cs:List Value}(h:W8 cs)(k:Nat)(b:Bool):W8 (cs.set k (.bool b)):=fun c hc=>by
 rcases List.mem_or_eq_of_mem_set hc with h1|rfl
 ·exact h c h1
 ·exact⟨b,rfl⟩
theorem W8.one{cs:List Value}(h:W8 cs):∀c∈cs,c.oneCell'=true:=fun c hc=>by
 obtain⟨b,rfl⟩:=h c hc;rfl
theorem W8.rep(k:Nat):W8 (E9y k (.bool false)):=fun c hc=>⟨false,List.eq_of_mem_replicate hc⟩
theorem C9m:∀l:List Value,C5p.catX l []=some l
 |[]=>rfl
 |a::l=>by simp only[C5p.catX,C9m l]
theorem J6{T:F7}{n:Nat}{f:Fr}{t e:Nat}{x:Operand}{cs:List Value}{d1 d2:TyE}(h1:D6 T t=some d1)(h2:d1.desc=.slice e)(h3:D6 T e=some d2)(h4:cs.length=d2.size)(h5:0<d2.size)(h6:d2.size≤16777216)(hx:M5 (ev n f x)=some cs):bsl T n f t 1 [(0,x)]=some (e,cs):=by
 obtain⟨dd,s1,b1,z1⟩:=d1;simp only at h2;subst h2;have e1:E9p cs.length d2.size=true:=by rw[h4];exact Nat.beq_refl _
 have e2:F0e 0 d2.size=true:=by simpa [F1j] using h5
 have e3:F0n (1*d2.size) 16777216=true:=by rw[Nat.one_mul];exact Nat.ble_eq_true_of_le h6
 have e4:E9p 0 0=true:=rfl;have e5:E9p [(0,cs)].length 1=true:=rfl;simp only[bsl,h1,h3,Y3,hx,e5,e2,e3,C5p,e1,e4,Bool.and_self,cond_true,C9m]
theorem B8k{P:Program}{n:Nat}{c:Code}{f:Fr}{i:Imm}{Q:Ex→Fr→Imm→SH→Prop}(G R:SH)(h:CS P n c f i R Q):CS P n c f i (G++R) Q:=
 A4b fun _ hw=>⟨i,R,Imm.le.refl i,hw.dropL,h⟩
theorem Y9{P:Program}{all:List Oper}{n:Nat}{r:List Oper}{f:Fr}{i:Imm}{K:Fr→Imm→SH→Prop}(G R:SH)(h:RS P all n r f i R K):RS P all n r f i (G++R) K:=
 A2g fun _ hw=>⟨i,R,Imm.le.refl i,hw.dropL,h⟩
def B1t(sz:Nat):List Value→List (Nat×List Value)→Option (List Value)
 |cs,[]=>some cs
 |cs,(i,vs)::rest=>bif E9p vs.length sz&&F0e 0 vs.length then(match U9 cs (i*sz) vs with|some cs'=>B1t sz cs' rest|none=>none) else none
theorem B4a(sz:Nat):
 ∀(ps:List (Nat×List Value))(vs:List (Nat×Value))(cs cs':List Value),B1t sz cs ps=some cs'→ps.map (fun p=>(p.1,p.2.toArray))=vs.map (fun p=>(p.1,p.2.cells))→
  Instr.fill (fun k=>some (k*sz,sz)) cs.toArray vs=some cs'.toArray
 |[],vs,cs,cs',h,hv=>by
  cases vs with
  |nil=>cases h;rfl
  |cons _ _=>cases hv
 |(k,l)::ps,vs,cs,cs',h,hv=>by
  cases vs with
  |nil=>cases hv
  |cons p vs=>
   obtain⟨k',u⟩:=p;simp only[F0w,List.cons.injEq,Prod.mk.injEq] at hv;obtain⟨⟨rfl,hu⟩,hv⟩:=hv;simp only[B1t] at h;cases hb:(E9p l.length sz&&F0e 0 l.length) with
   |false=>rw[hb] at h;cases h
   |true=>
    rw[hb] at h;simp only[cond_true] at h;simp only[E9j] at hb;split at h
    ·rename_i c1 h1;have hlen:=E9m hb.1;have hpos:0<l.length:=by simpa [F1j] using hb.2
     obtain⟨_,e2⟩:=A7b _ _ _ _ h1;have ih:=B4a sz ps vs c1 cs' h hv;have hf:=B7d l cs (k*sz) c1 h1;simp only[Instr.fill,←hu];rw[if_neg]
     ·rw[←ih,←hf]
     ·simp[hlen];omega
    ·cases h
section
variable{P:Program}{n:Nat}{f:Fr}{dst:Option Nat}{ty:TypeId}{pos:String}{B4:Array Edge}{gd:Option (Nat×Bool)}{T:F7}
theorem A3g(hT:T.ok P){t e m s1 b1 sz b2:Nat}{d2:TypeDesc}{zero z2:List Value}{parts:Array (Nat×Operand)}{ps:List (Nat×List Value)}{cs:List Value}(he:D6 T t=some ⟨.array m e,s1,b1,zero⟩)(he2:D6 T e=some ⟨d2,sz,b2,z2⟩)(hps:Y3 n f parts.toList=some ps)(h:B1t sz zero ps=some cs):
 PV P n f ⟨dst,.build t parts,ty,pos,B4,gd⟩ (.agg cs.toArray):=by
 unfold PV;intro w;obtain⟨hu,_,ti,z,hi,hs,hby,hz,hzc⟩:=B6 hT he;obtain⟨_,_,ti',z',hi',hs',_⟩:=B6 hT he2;have hfill:=B4a sz ps (parts.toList.map fun p=>(p.1,ev n f p.2)) zero cs h (A1u _ _ hps);have hpl:(parts.map fun(k,x)=>(k,ev n f x)).toList=parts.toList.map fun p=>(p.1,ev n f p.2):=by simp
 have h1:(zeroValue t).run P w=.ok z w:=by simp[zeroValue,E0 hi,hz]
 have h2:(sizeOf e).run P w=.ok sz w:=by simp[sizeOf,E0 hi',hs']
 have hb:(Instr.build t (parts.map fun(k,x)=>(k,ev n f x))).run P w=.ok (.agg cs.toArray) w:=by
  unfold Instr.build;rw[G8 _ _ _ _ _ h1,G8 _ _ _ _ _ (run_underlying hu w)];simp only[];rw[G8 _ _ _ _ _ h2];simp only[hpl];have hzc':z.cells=zero.toArray:=by first|exact hzc|exact A4f hzc
  rw[hzc',hfill];simp
 simp only[execOp];rw[G8 _ _ _ _ _ hb];rfl
theorem C1v(hT:T.ok P){t e l s1 b1:Nat}{z1:List Value}{d:TyE}{x y:Operand}{cs:List Value}{j:Int}{k:IntKind}(hx:ev n f x=.agg cs.toArray)(hy:ev n f y=.int k j)(he:D6 T t=some ⟨.array l e,s1,b1,z1⟩)(hd:D6 T e=some d)(hag:K4 d.desc=true)(hj:0≤j∧j<l):
 PV P n f ⟨dst,.index t x y,ty,pos,B4,gd⟩ (.agg ((cs.drop (j.toNat*d.size)).take d.size).toArray):=by
 unfold PV;intro w;have hu:=(B6 hT he).und;obtain⟨h2,_,ti,z,hi,hsz,_⟩:=B6 hT hd;simp[execOp,hx,hy,Instr.index,asIntOf,run_underlying hu,hj,sizeOf,E0 hi,hsz,part,U5 h2,hag]
end
end Go.Eng
