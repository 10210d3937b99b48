/- What the proof leans on. No condition. -/
import Derived.Test.YtckdkhhpjnefpaaGreatDoorP1
import Derived.Laws.IdiomCopy
import Derived.Deep.AppendSrc
import Derived.Laws.IdiomStrings
import Derived.Laws.RangeString
set_option maxHeartbeats 4000000
set_option linter.unusedVariables false
set_option linter.deprecated false
set_option linter.unusedSimpArgs false
set_option linter.unusedSectionVars false
open Go.Value renaming string→E9z,int→F0u,bool→F0x
open List renaming getElem?_eq_some_iff→E9e,mem_of_getElem?→E9g,getElem?_set_ne→F0q,map_cons→F0w,getElem?_drop→F1e,all_eq_true→F0c,length_cons→F1h,toArray→E9d,mem_cons_self→F0g,mem_map→F1k,getElem?_map→F0k,length_map→F1t,getElem?_append_left→E9t,mem_cons_of_mem→E9u,mem_of_mem_take→F1d,mem_of_mem_drop→F1g,length_append→E9h,mem_append→E9r,append_assoc→F0p,mem_cons→F0b,getElem?_eq_getElem→E9v,eq_nil_of_length_eq_zero→F0t,drop_drop→F1u
open Nat renaming zero_add→F1b,blt→F0e,blt_eq→F1j,eq_of_beq_eq_true→E9m,beq→E9p,mod→F1m,le_of_ble_eq_true→E9w,ble→F0n,le_refl→E9q,add_mul→F1f,zero_le→E9k
open Option renaming map_some→F1q
open Go.Instr renaming sliceBounds→F0v,sliceAt→F1a,sliceBound→F1c,slice→F1v
open Bool renaming and_eq_true→E9j
open Go.Builtin renaming zeroCells→F1n
open UInt8 renaming ofNat→F0d
open Array renaming ext'→F1w
open ByteArray renaming empty→E9f
open Go.Obj renaming cells→E9n
namespace Go.Eng
open Go
section
variable{κ:Type}[DecidableEq κ](kv:κ→Value)
def P0(es:List (κ×Value×Nat)):Array MapEntry:=(es.map fun e=>(⟨kv e.1,e.2.1,e.2.2⟩:MapEntry)).toArray
def A6q(a:κ):List (κ×Value×Nat)→Nat→Option (Nat×Value)
 |[],_=>none
 |e::es,i=>if a=e.1 then some (i,e.2.1) else A6q a es (i+1)
def Q3(a:κ):List (κ×Value×Nat)→Option Value
 |[]=>none
 |e::es=>if a=e.1 then some e.2.1 else Q3 a es
def Z4(a:κ)(v:Value)(c:Nat):List (κ×Value×Nat)→List (κ×Value×Nat)
 |[]=>[(a,v,c)]
 |e::es=>if a=e.1 then(e.1,v,e.2.2)::es else e::Z4 a v c es
def C2k(a:κ)(c:Nat)(es:List (κ×Value×Nat)):Nat:=if(Q3 a es).isSome then c else c+1
structure KeyT(P:Program)(kt:TypeId):Prop where
 same:∀(w:World)(a:κ)(es:List (κ×Value×Nat)),(Instr.findKey kt (kv a) (P0 kv es).toList).run P w=.ok (A6q a es 0) w
 check:∀(w:World)(a:κ)(e:Bool),(Instr.checkKey e 10000 kt (kv a)).run P w=.ok () w
 stays:∀(w:World)(a:κ),(Instr.keyThatStays (kv a) (kv a)).run P w=.ok (kv a) w
theorem C8y(es:List (κ×Value×Nat))(a:κ)(v:Value)(c:Nat)(b:κ):Q3 b (Z4 a v c es)=if b=a then some v else Q3 b es:=by
 induction es with
 |nil=>simp[Z4,Q3]
 |cons e es ih=>
  simp only[Z4];by_cases h:a=e.1
  ·subst h;rw[if_pos rfl];simp only[Q3];split<;>rfl
  ·rw[if_neg h];simp only[Q3,ih];by_cases hb:b=e.1
   ·subst hb;rw[if_pos rfl,if_neg (fun e=>h e.symm),if_pos rfl]
   ·rw[if_neg hb,if_neg hb]
theorem A9j{a:κ}:∀{es:List (κ×Value×Nat)}{i:Nat},Q3 a es=none→A6q a es i=none
 |[],_,_=>rfl
 |e::es,i,h=>by
  simp only[Q3] at h;simp only[A6q];split at h
  ·cases h
  ·rename_i hn;rw[if_neg hn];exact A9j h
theorem A9h{a:κ}{v:Value}:∀{es:List (κ×Value×Nat)}{i:Nat},Q3 a es=some v→∃j b,A6q a es i=some (i+j,v)∧es[j]?=some (a,v,b)∧∀u c,Z4 a u c es=es.set j (a,u,b)
 |[],_,h=>by cases h
 |e::es,i,h=>by
  simp only[Q3] at h;by_cases he:a=e.1
  ·rw[if_pos he] at h;cases h;exact⟨0,e.2.2,by simp[A6q,he],by simp[he],fun u c=>by simp[Z4,he]⟩
  ·rw[if_neg he] at h;obtain⟨j,b,h1,h2,h3⟩:=A9h (i:=i+1) h;exact⟨j+1,b,by rw[A6q,if_neg he,h1];congr 2;omega,by simpa using h2,fun u c=>by simp[Z4,he,h3]⟩
variable{kv}
section
variable{P:Program}{n:Nat}{f:Fr}{i:Imm}{L:SH}{K:Value→Imm→SH→Prop}{dst:Option Nat}{ty:TypeId}{pos:String}{B4:Array Edge}{gd:Option (Nat×Bool)}{T:F7}
theorem A5t(kv:κ→Value){t:TypeId}(h:∀b,K (.map (some b)) i ((b,.map (P0 kv []) 0)::L)):P3 P n ⟨dst,.makeMap t none,ty,pos,B4,gd⟩ f i L K:=B4h h
theorem C8w(hT:T.ok P){t kt et:TypeId}{b c:Nat}{a:κ}{es:List (κ×Value×Nat)}{zv:Value}(ok:Bool)(ht:∃d,D6 T t=some d∧d.desc=.map kt et)(hk:KeyT kv P kt)
 (hz:∀w,(zeroValue et).run P w=.ok zv w) (hb:Has i L b (.map (P0 kv es) c)) (w:World) (hw:St i L w):(Instr.lookup t (.map (some b)) (kv a) ok).run P w=.ok (if ok then .tuple #[(Q3 a es).getD zv,.bool (Q3 a es).isSome] else(Q3 a es).getD zv) w:=by
 obtain⟨d,h1,h2⟩:=ht;have u1:=(B6 hT h1).und;rw[h2] at u1;have h7:=hb.block hw;have h8:=hk.same w a es;have h9:=hk.check w a (P0 kv es).isEmpty;have g1:(getObj b).run P w=.ok (.map (P0 kv es) c) w:=M9 h7;simp only[Instr.lookup];cases hm:Q3 a es with
 |some v=>
  obtain⟨j,_,hj,_⟩:=A9h (i:=0) hm;rw[hj] at h8;cases ok<;>simp[run_underlying u1,g1,h9,h8]
 |none=>
  rw[A9j hm] at h8;cases ok<;>simp[run_underlying u1,g1,h9,h8,hz w]
theorem C9x(hT:T.ok P){t kt et:TypeId}{x y:Operand}{b c:Nat}{a:κ}{es:List (κ×Value×Nat)}{zv v:Value}(hx:ev n f x=.map (some b))(hy:ev n f y=kv a)(ht:∃d,D6 T t=some d∧d.desc=.map kt et)(hk:KeyT kv P kt)
 (hz:∀w,(zeroValue et).run P w=.ok zv w) (hb:Has i L b (.map (P0 kv es) c)) (hv:(Q3 a es).getD zv=v):LV P n f i L ⟨dst,.lookup t x y false,ty,pos,B4,gd⟩ v:=by
 unfold LV;intro w hw;simp only[execOp,hx,hy];rw[G8 _ _ _ _ _ (C8w (a:=a) hT false ht hk hz hb w hw),←hv];rfl
theorem D4f(hT:T.ok P){t kt et:TypeId}{x y:Operand}{b c:Nat}{a:κ}{es:List (κ×Value×Nat)}{zv:Value}(hx:ev n f x=.map (some b))(hy:ev n f y=kv a)(ht:∃d,D6 T t=some d∧d.desc=.map kt et)(hk:KeyT kv P kt)
 (hz:∀w,(zeroValue et).run P w=.ok zv w) (hb:Has i L b (.map (P0 kv es) c)):LV P n f i L ⟨dst,.lookup t x y true,ty,pos,B4,gd⟩ (.tuple #[(Q3 a es).getD zv,.bool (Q3 a es).isSome]):=by
 unfold LV;intro w hw;simp only[execOp,hx,hy];rw[G8 _ _ _ _ _ (C8w (a:=a) hT true ht hk hz hb w hw)];rfl
theorem A7k(hT:T.ok P){t kt et:TypeId}{x y z:Operand}{b c k:Nat}{a:κ}{es:List (κ×Value×Nat)}{u:Value}{L':SH}(hx:ev n f x=.map (some b))(hy:ev n f y=kv a)(hz:ev n f z=u)(ht:∃d,D6 T t=some d∧d.desc=.map kt et)(hk:KeyT kv P kt)
 (hb:L[k]?=some (b,.map (P0 kv es) c)) (hL:L.set k (b,.map (P0 kv (Z4 a u c es)) (C2k a c es))=L') (h:K undef i L'):P3 P n ⟨dst,.mapUpdate t x y z,ty,pos,B4,gd⟩ f i L K:=by
 obtain⟨d,h1,h2⟩:=ht;have h5:=(B6 hT h1).und;rw[h2] at h5;refine A8g fun w hw=>?_
 have h7:=hw.own _ (E9g hb);have h8:=hk.same w a es;have h9:=hk.check w a false;have g1:(getObj b).run P w=.ok (.map (P0 kv es) c) w:=M9 h7;have g2:=A1t (P:=P) (.map (P0 kv (Z4 a u c es)) (C2k a c es)) h7;refine⟨{w with heap:=w.heap.setIfInBounds b (.map (P0 kv (Z4 a u c es)) (C2k a c es))},i,L',?_,Imm.le.refl i,?_,h⟩
 ·simp only[execOp,hx,hy,hz,Instr.mapUpdate];cases hm:Q3 a es with
  |none=>
   rw[A9j hm] at h8
   have e1:(P0 kv es).push ⟨kv a,u,c⟩=P0 kv (Z4 a u c es):=by
    have:∀es:List (κ×Value×Nat),Q3 a es=none→Z4 a u c es=es++[(a,u,c)]:=by
     intro es;induction es with
     |nil=>intro _;rfl
     |cons e es ih=>
      intro h;simp only[Q3] at h;split at h
      ·cases h
      ·rename_i hn;simp[Z4,hn,ih h]
    rw[this es hm];simp[P0]
   have e2:C2k a c es=c+1:=by simp[C2k,hm]
   rw[e2] at g2⊢;simp[run_underlying h5,g1,h9,h8,e1,g2]
  |some v=>
   obtain⟨j,bn,hj,hes,hput⟩:=A9h (i:=0) hm;rw[hj] at h8;simp only[F1b] at h8;have e2:C2k a c es=c:=by simp[C2k,hm]
   have hjl:j<es.length:=(E9e.1 hes).1;have e0:(P0 kv es)[j]?=some ⟨kv a,v,bn⟩:=by simp[P0,hes]
   have e1:((P0 kv es).modify j fun e=>{e with key:=kv a,val:=u})=P0 kv (Z4 a u c es):=by
    rw[hput];apply Array.ext_getElem?;intro m;rw[Array.getElem?_modify];by_cases hmj:j=m
    ·subst hmj;simp only[if_pos rfl,e0,F1q];simp[P0,hjl]
    ·rw[if_neg hmj];simp[P0,F0q hmj]
   have e3:=hk.stays w a;rw[e2] at g2⊢;simp[run_underlying h5,g1,h9,h8,e0,e1,e3,g2]
 ·rw[←hL];refine hw.put hb rfl rfl rfl fun x=>?_
  show(w.heap.setIfInBounds b _)[x]?=_
  rw[Array.getElem?_setIfInBounds];have hlt:b<w.heap.size:=(Array.getElem?_eq_some_iff.1 h7).1;by_cases hxb:b=x
  ·subst hxb;rw[if_pos rfl,if_pos hlt,if_pos rfl]
  ·rw[if_neg hxb,if_neg (fun e=>hxb e.symm)]
end
end
section
variable{P:Program}{T:F7}
theorem KeyT.int(hT:T.ok P){kt:TypeId}{kk:IntKind}(h:∃d,D6 T kt=some d∧d.desc=.int kk):KeyT (F0u .i64) P kt:=by
 obtain⟨d',h3,h4⟩:=h;have h6:=(B6 hT h3).und;rw[h4] at h6;have e:∀es:List (Int×Value×Nat),P0 (F0u .i64) es=ents es:=fun _=>rfl
 have e2:∀(a:Int)(es:List (Int×Value×Nat))(k:Nat),A6q a es k=A1g a es k:=by
  intro a es;induction es with
  |nil=>intro _;rfl
  |cons x es ih=>intro k;simp only[A6q,A1g,ih]
 refine⟨fun w a es=>by rw[e,e2];exact B4x h6 a es,fun w a b=>B2x h6 a b 9999,fun w a=>?_⟩;simp[Instr.keyThatStays,Instr.sameBits]
theorem E8d(hT:T.ok P){kt:TypeId}(h:∃d,D6 T kt=some d∧d.desc=.string):KeyT E9z P kt:=by
 obtain⟨d',h3,h4⟩:=h;have h6:=(B6 hT h3).und;rw[h4] at h6
 have e2:∀(a:ByteArray)(es:List (ByteArray×Value×Nat))(k:Nat),Instr.findNow .string (.string a) (es.map fun e=>(⟨.string e.1,e.2.1,e.2.2⟩:MapEntry)) k=some (A6q a es k):=by
  intro a es;induction es with
  |nil=>intro _;rfl
  |cons x es ih=>
   intro k;simp only[F0w,Instr.findNow,Instr.sameNow,A6q,A7v];by_cases h:a=x.1
   ·simp[h]
   ·simp only[decide_eq_false h,if_neg h];exact ih (k+1)
 refine⟨fun w a es=>?_,fun w a b=>?_,fun w a=>?_⟩
 ·simp[Instr.findKey,run_underlying h6,P0,e2]
 ·exact B2w h6 a b 9999
 ·have:(a==a)=true:=by rw[A7v];simp
  simp[Instr.keyThatStays,Instr.sameBits,this]
end
def BV(φ:Prop)(r:Value):Prop:=∃b,r=.bool b∧(b=true↔φ)
theorem BV.iff{φ ψ:Prop}{r:Value}(h:BV φ r)(e:φ↔ψ):BV ψ r:=let⟨b,h1,h2⟩:=h;⟨b,h1,h2.trans e⟩
theorem N9{φ:Prop}(h:φ):BV φ (.bool true):=⟨true,rfl,by simp[h]⟩
theorem BV.no{φ:Prop}(h:¬φ):BV φ (.bool false):=⟨false,rfl,by simp[h]⟩
section
variable{P:Program}{all:List Oper}{n:Nat}{r:List Oper}{f:Fr}{i:Imm}{L:SH}{dst:Option Nat}{ty:TypeId}{pos:String}{B4:Array Edge}{gd:Option (Nat×Bool)}{T:F7}
theorem Q7{K:Fr→Imm→SH→Prop}{φ:Prop}{g:FuncId}{as:Array Operand}{ts:Array TypeId}{vs:List Value}(h:E6 P g vs i L fun v _ L'=>BV φ v∧L'=L)(hg:P9 n f all ⟨dst,.call ⟨.value (.func g),as,ts⟩,ty,pos,B4,gd⟩=true)(hf:Z2 P g=true)
 (ha:as.toList.map (ev n f)=vs) (hT:∀i',i.le i'→φ→RS P all n r (F3 f dst (.bool true)) i' L K) (hF:∀i',i.le i'→¬φ→RS P all n r (F3 f dst (.bool false)) i' L K):RS P all n (⟨dst,.call ⟨.value (.func g),as,ts⟩,ty,pos,B4,gd⟩::r) f i L K:=by
 refine A7 h hg hf ha ?_;rintro v i' L' hi ⟨⟨b,rfl,hb⟩,rfl⟩;cases b
 ·exact hF i' hi fun h=>by have:=hb.2 h;cases this
 ·exact hT i' hi (hb.1 rfl)
theorem M1{K:Fr→Prop}{φ:Prop}{g:FuncId}{as:Array Operand}{ts:Array TypeId}{vs:List Value}(h:E6 P g vs i L fun v _ L'=>BV φ v∧L'=L)(hg:P9 n f all ⟨dst,.call ⟨.value (.func g),as,ts⟩,ty,pos,B4,gd⟩=true)(hf:Z2 P g=true)
 (ha:as.toList.map (ev n f)=vs) (hT:φ→QS P all n r (F3 f dst (.bool true)) i L K) (hF:¬φ→QS P all n r (F3 f dst (.bool false)) i L K):QS P all n (⟨dst,.call ⟨.value (.func g),as,ts⟩,ty,pos,B4,gd⟩::r) f i L K:=by
 haveI:Decidable φ:=Classical.propDecidable φ
 refine B8c (p:=φ) (h.mono ?_) hg hf ha hT hF;rintro v i' L' hi ⟨⟨b,rfl,hb⟩,rfl⟩;refine⟨congrArg F0x ?_,rfl⟩;by_cases hp:φ
 ·rw[decide_eq_true hp];exact hb.2 hp
 ·rw[decide_eq_false hp];cases b
  ·rfl
  ·exact absurd (hb.1 rfl) hp
theorem E7e{K:Fr→Imm→SH→Prop}{t t2:TypeId}{x y:Operand}{p q:ByteArray}(hg:P9 n f all ⟨dst,.binOp .geq t x y t2,ty,pos,B4,gd⟩=true)(hx:ev n f x=.string p)(hy:ev n f y=.string q)
 (h:∀b,RS P all n r (F3 f dst (.bool b)) i L K):RS P all n (⟨dst,.binOp .geq t x y t2,ty,pos,B4,gd⟩::r) f i L K:=by
 have:∃b,PV P n f ⟨dst,.binOp .geq t x y t2,ty,pos,B4,gd⟩ (.bool b):=⟨!(Op.bytesLess p.toList q.toList),by
  unfold PV;intro w;simp[execOp,hx,hy,eqGuard,binOp,Op.stringOp]⟩
 obtain⟨b,hb⟩:=this;exact A6 hb hg (h b)
def B6c(ao:Option Addr)(l c:Nat):Prop:=l≤c∧((ao=none∧l=0∧c=0)∨∃g o,ao=some ⟨g,o,none⟩)
theorem A3d(hT:T.ok P){t sz l c j:Nat}{ao:Option Addr}{x y:Operand}{k:IntKind}(hx:ev n f x=.slice ao l c)(hy:ev n f y=.int k (j:Int))(hs:A3v T t=some sz)(ha:B6c ao l c)(h:j≤l):
 PV P n f ⟨dst,.slice t x (some y) none none,ty,pos,B4,gd⟩ (.slice (X9 ao c j sz) (l-j) (c-j)):=by
 unfold PV;intro w;obtain⟨e,i,z,x',h1,h2,h3,h4,_⟩:=A0h hT hs;obtain⟨_,⟨rfl,rfl,rfl⟩|⟨g,o,rfl⟩⟩:=ha
 ·have:j=0:=by omega
  subst this;simp[execOp,hx,hy,F1a,F1v,F0v,F1c,asIntOf,run_underlying h1,sizeOf,E0 h2,X9]
 ·have hj:(0:Int)≤(j:Int)∧(j:Int)≤(l:Int):=by omega
  by_cases hc:c=j
  ·simp[execOp,hx,hy,F1a,F1v,F0v,F1c,asIntOf,run_underlying h1,hj,sizeOf,E0 h2,hc,X9,h]
  ·simp[execOp,hx,hy,F1a,F1v,F0v,F1c,asIntOf,run_underlying h1,hj,sizeOf,E0 h2,hc,h3,X9,E8,h]
theorem B6c.tail{ao:Option Addr}{l c j sz:Nat}(h:B6c ao l c)(hj:j≤l):B6c (X9 ao c j sz) (l-j) (c-j):=by
 obtain⟨h0,⟨rfl,rfl,rfl⟩|⟨g,o,rfl⟩⟩:=h
 ·exact⟨by omega,.inl ⟨rfl,by omega,by omega⟩⟩
 ·refine⟨by omega,.inr ?_⟩;unfold X9;rw[F1q];split
  ·exact⟨g,o,rfl⟩
  ·exact⟨g,_,rfl⟩
theorem Sl.tail{i:Imm}{ao:Option Addr}{n cap k sz:Nat}{xs:List Value}(h:Sl i (.slice ao n cap) sz n xs)(hc:B6c ao n cap)(hk:k≤n):Sl i (.slice (X9 ao cap k sz) (n-k) (cap-k)) sz (n-k) (xs.drop (k*sz)):=by
 obtain⟨hc1,hc2⟩:=hc;obtain⟨ao',cap',hv,hl,h3⟩:=h;cases hv;refine⟨_,_,rfl,by rw[List.length_drop,hl,Nat.sub_mul],?_⟩;by_cases hkn:k=n
 ·subst hkn;refine .inl ?_;rw[←hl,List.drop_length]
 ·rcases h3 with rfl|⟨b,o,cs,t,fz,rfl,hb,h4⟩
  ·exact .inl (by simp)
  ·refine .inr ⟨b,o+k*sz,cs,t,fz,?_,hb,fun j hj=>?_⟩
   ·unfold X9;rw[F1q,if_neg (by omega)]
   ·rw[List.length_drop] at hj;rw[F1e,←h4 _ (by omega)];congr 1;omega
end
theorem wrap_u8(n:Int)(h:0≤n∧n≤255):IntKind.u8.wrap n=n:=by
 have h1:n % 256=n:=Int.emod_eq_of_lt h.1 (by omega);simp[IntKind.wrap,IntKind.signed,IntKind.bits];omega
section
variable{P:Program}{n:Nat}{f:Fr}{dst:Option Nat}{ty:TypeId}{pos:String}{B4:Array Edge}{gd:Option (Nat×Bool)}{T:F7}
theorem E8b{t t2:Nat}{x y:Operand}{a b:Int}(hx:ev n f x=.int .u8 a)(hy:ev n f y=.int .u8 b)(h:0≤a+b∧a+b≤255):
 PV P n f ⟨dst,.binOp .add t x y t2,ty,pos,B4,gd⟩ (.int .u8 (a+b)):=by
 unfold PV;intro w;simp[execOp,hx,hy,eqGuard,binOp,Op.intArith,wrap_u8 _ h]
theorem C0v{α:Type}:∀l:List α,A9r l.length l=some l
 |[]=>rfl
 |a::l=>by simp only[F1h,A9r,C0v l]
theorem A5c{t:Nat}{e:TyE}{cs:List Value}(ht:D6 T t=some e)(ha:K4 e.desc=true)(hl:cs.length=e.size):ldV T t 0 cs=some (.agg cs.toArray):=by
 unfold ldV;rw[ht];simp only[ha,cond_true,List.drop_zero];rw[←hl,C0v]
theorem K3{t:Nat}{e:TyE}{vs:List Value}(ht:D6 T t=some e)(hl:vs.length=e.size)(h1:∀c∈vs,c.oneCell'=true):R8 T t vs=true:=by
 unfold R8;rw[ht];simp only[E9j];exact⟨by rw[hl];exact Nat.beq_refl _,F0c.2 h1⟩
theorem E0f(hT:T.ok P){t k:Nat}{x:Operand}{fs:Array Field}{s1 b1:Nat}{z zero cs:List Value}{fd:Field}{e:TyE}(he:D6 T t=some ⟨.struct fs,s1,b1,z⟩)(hall:fs.toList.all (fun fd=>(D6 T fd.type).isSome)=true)(hfd:fs[k]?=some fd)(hte:D6 T fd.type=some e)(hx:M5 (ev n f x)=some cs)(hl:cs.length=e.size)(h0:0<cs.length)(hz:z=zero)(hle:fd.offset+cs.length≤zero.length):
 PV P n f ⟨dst,.build t #[(k,x)],ty,pos,B4,gd⟩ (.agg (zero.take fd.offset++cs++zero.drop (fd.offset+cs.length)).toArray):=by
 subst hz;refine A7g hT ?_;unfold bld;rw[he];simp only[hall,cond_true,Y3,hx,A6y,hfd,hte,hl,Nat.beq_refl,Bool.true_and];have hb:F0e 0 cs.length=true:=by rw[F1j];exact h0
 rw[←hl,hb,T7 _ _ _ hle];rfl
theorem E0e(hT:T.ok P){t k k':Nat}{x x':Operand}{fs:Array Field}{s1 b1:Nat}{z zero cs cs':List Value}{fd fd':Field}{e e':TyE}(he:D6 T t=some ⟨.struct fs,s1,b1,z⟩)(hall:fs.toList.all (fun fd=>(D6 T fd.type).isSome)=true)
 (hfd:fs[k]?=some fd) (hte:D6 T fd.type=some e) (hx:M5 (ev n f x)=some cs) (hl:cs.length=e.size) (h0:0<cs.length) (hz:z=zero) (hle:fd.offset+cs.length≤zero.length)
 (hfd':fs[k']?=some fd') (hte':D6 T fd'.type=some e') (hx':M5 (ev n f x')=some cs') (hl':cs'.length=e'.size) (h0':0<cs'.length) (hle':fd'.offset+cs'.length≤zero.length):
 PV P n f ⟨dst,.build t #[(k,x),(k',x')],ty,pos,B4,gd⟩ (.agg ((zero.take fd.offset++cs++zero.drop (fd.offset+cs.length)).take fd'.offset++cs'++(zero.take fd.offset++cs++zero.drop (fd.offset+cs.length)).drop (fd'.offset+cs'.length)).toArray):=by
 subst hz;refine A7g hT ?_;have hlen:(z.take fd.offset++cs++z.drop (fd.offset+cs.length)).length=z.length:=by simp;omega
 unfold bld;rw[he];simp only[hall,cond_true,Y3,hx,hx',A6y,hfd,hte,hfd',hte',hl,hl',Nat.beq_refl,Bool.true_and];have hb:F0e 0 cs.length=true:=by rw[F1j];exact h0
 have hb':F0e 0 cs'.length=true:=by rw[F1j];exact h0'
 rw[←hl,←hl',hb,hb',T7 _ _ _ hle];simp only[cond_true];rw[T7 _ _ _ (by rw[hlen];exact hle')]
theorem D4a(hT:T.ok P){t k:Nat}{x:Operand}{fs:Array Field}{s1 b1:Nat}{z zero cs:List Value}{fd:Field}{e:TyE}(he:D6 T t=some ⟨.struct fs,s1,b1,z⟩)(hall:fs.toList.all (fun fd=>(D6 T fd.type).isSome)=true)(hfd:fs[k]?=some fd)(hte:D6 T fd.type=some e)(hx:M5 (ev n f x)=some cs)(hl:cs.length=e.size)(h0:0<cs.length)(hz:z=zero)(hle:fd.offset+cs.length=zero.length):
 PV P n f ⟨dst,.build t #[(k,x)],ty,pos,B4,gd⟩ (.agg (zero.take fd.offset++cs).toArray):=by
 have h:=E0f (dst:=dst) (ty:=ty) (pos:=pos) (B4:=B4) (gd:=gd) hT he hall hfd hte hx hl h0 hz (by omega);rw[List.drop_eq_nil_of_le (by omega),List.append_nil] at h;exact h
theorem D3z(hT:T.ok P){t k k':Nat}{x x':Operand}{fs:Array Field}{s1 b1:Nat}{z zero cs cs':List Value}{fd fd':Field}{e e':TyE}(he:D6 T t=some ⟨.struct fs,s1,b1,z⟩)(hall:fs.toList.all (fun fd=>(D6 T fd.type).isSome)=true)
 (hfd:fs[k]?=some fd) (hte:D6 T fd.type=some e) (hx:M5 (ev n f x)=some cs) (hl:cs.length=e.size) (h0:0<cs.length) (hz:z=zero) (hle:fd.offset+cs.length≤zero.length)
 (hfd':fs[k']?=some fd') (hte':D6 T fd'.type=some e') (hx':M5 (ev n f x')=some cs') (hl':cs'.length=e'.size) (h0':0<cs'.length) (hle':fd'.offset+cs'.length=zero.length):
 PV P n f ⟨dst,.build t #[(k,x),(k',x')],ty,pos,B4,gd⟩ (.agg ((zero.take fd.offset++cs++zero.drop (fd.offset+cs.length)).take fd'.offset++cs').toArray):=by
 have h:=E0e (dst:=dst) (ty:=ty) (pos:=pos) (B4:=B4) (gd:=gd) hT he hall hfd hte hx hl h0 hz hle hfd' hte' hx' hl' h0' (by omega);rw[show List.drop (fd'.offset+cs'.length) (zero.take fd.offset++cs++zero.drop (fd.offset+cs.length))=[] from List.drop_eq_nil_of_le (by simp;omega),List.append_nil] at h;exact h
end
section
variable{P:Program}{all:List Oper}{n:Nat}{r:List Oper}{f:Fr}{i:Imm}{L:SH}{dst:Option Nat}{ty:TypeId}{pos:String}{B4:Array Edge}{gd:Option (Nat×Bool)}
theorem E7g{K:Fr→Prop}{t t2:TypeId}{x y:Operand}{p q:ByteArray}(hg:P9 n f all ⟨dst,.binOp .geq t x y t2,ty,pos,B4,gd⟩=true)(hx:ev n f x=.string p)(hy:ev n f y=.string q)
 (h:∀b,QS P all n r (F3 f dst (.bool b)) i L K):QS P all n (⟨dst,.binOp .geq t x y t2,ty,pos,B4,gd⟩::r) f i L K:=by
 have:∃b,PV P n f ⟨dst,.binOp .geq t x y t2,ty,pos,B4,gd⟩ (.bool b):=⟨!(Op.bytesLess p.toList q.toList),by
  unfold PV;intro w;simp[execOp,hx,hy,eqGuard,binOp,Op.stringOp]⟩
 obtain⟨b,hb⟩:=this;exact D3 hb hg (h b)
end
section
variable{P:Program}{n:Nat}{f:Fr}{i:Imm}{dst:Option Nat}{ty:TypeId}{pos:String}{B4:Array Edge}{gd:Option (Nat×Bool)}{T:F7}
theorem D4b(hT:T.ok P){t e g off m cap:Nat}{x:Operand}{cs:List Value}{t':TypeId}{L0:SH}{z:Value}(hx:ev n f x=.slice (some ⟨g,off,none⟩) m cap)(ht:∃d,D6 T t=some d∧d.desc=.slice e)(he:∃d,D6 T e=some d∧d.zero=[z]∧z.oneCell'=true)(hoff:off+m≤cs.length):
 P3 P n ⟨dst,.call ⟨.builtin .clear,#[x],#[t]⟩,ty,pos,B4,gd⟩ f i ((g,.cells cs.toArray t' (0,0))::L0) fun _ i' L'=>i'=i∧∃cs':List Value,L'=(g,.cells (E9d cs') t' (0,0))::L0:=by
 obtain⟨d1,h1,h1d⟩:=ht;obtain⟨d2,h2,h2z,hz1⟩:=he;have hu:=(B6 hT h1).und;rw[h1d] at hu;obtain⟨_,_,ti,zv,hi,_,_,hz,hzc⟩:=B6 hT h2;refine F5 fun w hw=>?_
 have hb:=hw.own _ (F0g ..)
 have hex:∀r w',(Builtin.clear_ #[t] ty #[.slice (some ⟨g,off,none⟩) m cap]).run P w=.ok r w'→(execOp (ev n f) ⟨dst,.call ⟨.builtin .clear,#[x],#[t]⟩,ty,pos,B4,gd⟩).run P w=.ok (.value r) w':=by
  intro r w' hr;simp[execOp,resolve,hx,invoke,builtin,hr]
 cases m with
 |zero=>
  refine⟨.tuple #[],w,i,_,hex _ _ ?_,Imm.le.refl i,hw,rfl,cs,rfl⟩;simp[Builtin.clear_,run_underlying hu]
 |succ m=>
  obtain⟨vs,hvs⟩:∃vs,vs=(F1n zv.cells (m+1)).toList:=⟨_,rfl⟩;have hsz:zv.cells.size=1:=by rw[hzc,h2z];rfl
  have hlen:vs.length=m+1:=by rw[hvs];simp[F1n,hsz]
  have hone:∀c∈vs,c.oneCell'=true:=by
   rw[hvs];intro c hc;simp only[F1n,Array.toList_map,F1k] at hc;obtain⟨j,_,rfl⟩:=hc;rw[hsz,Nat.mod_one,hzc,h2z];exact hz1
  have hr:=run_storeCells_at P g off t' vs 0 cs.toArray w hb (by simp;omega) hone;simp only[Nat.add_zero] at hr
  have hrun:(Builtin.clear_ #[t] ty #[.slice (some ⟨g,off,none⟩) (m+1) cap]).run P w=.ok (.tuple #[]) (w.setRow g (cs.take off++vs++cs.drop (off+vs.length)).toArray):=by
   simp[Builtin.clear_,run_underlying hu,zeroValue,E0 hi,hz,←hvs,hr]
  refine⟨.tuple #[],_,i,_,hex _ _ hrun,Imm.le.refl i,hw.put (k:=0) rfl rfl rfl rfl (A7j w g _ _ _ _ hb),rfl,_,rfl⟩
end
end Go.Eng
namespace Go.Eng.Ev
noncomputable section
open Go Go.Eng
section
inductive Pth where
 |e|o (p:Pth)|i (p:Pth)
noncomputable def A2r(fuel:Nat):Nat→Pth:=
 Nat.rec (fun _=>.e) (fun _ ih n=>Nat.rec .e (fun m _=>Bool.rec (.o (ih (Nat.div m 2))) (.i (ih (Nat.div m 2))) (E9p (F1m m 2) 1)) n) fuel
inductive Tr(α:Type) where
 |lf
 |nd (l:Tr α) (v:Option (Nat×α)) (r:Tr α)
variable{α β:Type}
def tk(x:α):α:=x
noncomputable def D1w(p:Pth):Tr α→Option (Nat×α):=
 Pth.rec (fun t=>Tr.rec none (fun _ v _ _ _=>v) t) (fun _ ih t=>Tr.rec none (fun l _ _ _ _=>ih l) t) (fun _ ih t=>Tr.rec none (fun _ _ r _ _=>ih r) t) p
noncomputable def A9q(x:Option (Nat×α))(p:Pth):Tr α→(Tr α→β)→β:=
 Pth.rec (fun t k=>Tr.rec (k (.nd .lf x .lf)) (fun l _ r _ _=>k (.nd l x r)) t)
  (fun _ ih t k=>Tr.rec (ih .lf fun l'=>k (.nd l' none .lf)) (fun l v r _ _=>ih l fun l'=>k (.nd l' v r)) t)
  (fun _ ih t k=>Tr.rec (ih .lf fun r'=>k (.nd .lf none r')) (fun l v r _ _=>ih r fun r'=>k (.nd l v r')) t) p
@[reducible] def fl(γ:Type)(_:Nat):Option γ:=none
def A2t:Nat:=16
noncomputable def chk(n:Nat)(x:Option (Nat×α)):Option α:=Option.rec none (fun q=>Prod.rec (fun m a=>Bool.rec none (some a) (E9p m n)) q) x
def get(n:Nat)(t:Tr α):Option α:=chk n (D1w (A2r A2t n) t)
def setk(n:Nat)(a:α)(t:Tr α)(k:Tr α→β):β:=A9q (some (n,a)) (A2r A2t n) t k
def delk(n:Nat)(t:Tr α)(k:Tr α→β):β:=A9q none (A2r A2t n) t k
def set(n:Nat)(a:α)(t:Tr α):Tr α:=setk n a t id
def del(n:Nat)(t:Tr α):Tr α:=delk n t id
theorem W0(x:Option (Nat×α)):∀(p:Pth)(t:Tr α){β:Type}(k:Tr α→β),A9q x p t k=k (A9q x p t id)
 | .e,.lf,_,_=>rfl
 | .e,.nd ..,_,_=>rfl
 | .o p,.lf,_,k=>(W0 x p .lf (fun l'=>k (.nd l' none .lf))).trans (congrArg k (W0 x p .lf (fun l'=>Tr.nd l' none .lf)).symm)
 | .o p,.nd l v r,_,k=>(W0 x p l (fun l'=>k (.nd l' v r))).trans (congrArg k (W0 x p l (fun l'=>Tr.nd l' v r)).symm)
 | .i p,.lf,_,k=>(W0 x p .lf (fun r'=>k (.nd .lf none r'))).trans (congrArg k (W0 x p .lf (fun r'=>Tr.nd .lf none r')).symm)
 | .i p,.nd l v r,_,k=>(W0 x p r (fun r'=>k (.nd l v r'))).trans (congrArg k (W0 x p r (fun r'=>Tr.nd l v r')).symm)
theorem U1(p:Pth):D1w p (.lf:Tr α)=none:=by cases p<;>rfl
theorem Z9(x:Option (Nat×α)):∀(p q:Pth)(t:Tr α),(q=p→D1w q (A9q x p t id)=x)∧(q≠p→D1w q (A9q x p t id)=D1w q t)
 | .e,q,.lf=>by
   refine⟨fun h=>by subst h;rfl,fun h=>?_⟩;cases q with
   |e=>exact absurd rfl h
   |o q=>exact(U1 q).trans (U1 _).symm
   |i q=>exact(U1 q).trans (U1 _).symm
 | .e,q,.nd l v r=>by
   refine⟨fun h=>by subst h;rfl,fun h=>?_⟩;cases q with
   |e=>exact absurd rfl h
   |o q=>rfl
   |i q=>rfl
 | .o p,q,.lf=>by
   have e:A9q x (.o p) (.lf:Tr α) id=.nd (A9q x p .lf id) none .lf:=W0 x p .lf _;rw[e];cases q with
   |e=>exact⟨fun h=>(by cases h),fun _=>rfl⟩
   |o q=>
    obtain⟨h1,h2⟩:=Z9 x p q .lf;exact⟨fun h=>h1 (by cases h;rfl),fun h=>(h2 fun k=>h (by rw[k])).trans ((U1 q).trans (U1 _).symm)⟩
   |i q=>exact⟨fun h=>(by cases h),fun _=>(U1 q).trans (U1 _).symm⟩
 | .o p,q,.nd l v r=>by
   have e:A9q x (.o p) (.nd l v r) id=.nd (A9q x p l id) v r:=W0 x p l _;rw[e];cases q with
   |e=>exact⟨fun h=>(by cases h),fun _=>rfl⟩
   |o q=>
    obtain⟨h1,h2⟩:=Z9 x p q l;exact⟨fun h=>h1 (by cases h;rfl),fun h=>h2 fun k=>h (by rw[k])⟩
   |i q=>exact⟨fun h=>(by cases h),fun _=>rfl⟩
 | .i p,q,.lf=>by
   have e:A9q x (.i p) (.lf:Tr α) id=.nd .lf none (A9q x p .lf id):=W0 x p .lf _;rw[e];cases q with
   |e=>exact⟨fun h=>(by cases h),fun _=>rfl⟩
   |i q=>
    obtain⟨h1,h2⟩:=Z9 x p q .lf;exact⟨fun h=>h1 (by cases h;rfl),fun h=>(h2 fun k=>h (by rw[k])).trans ((U1 q).trans (U1 _).symm)⟩
   |o q=>exact⟨fun h=>(by cases h),fun _=>(U1 q).trans (U1 _).symm⟩
 | .i p,q,.nd l v r=>by
   have e:A9q x (.i p) (.nd l v r) id=.nd l v (A9q x p r id):=W0 x p r _;rw[e];cases q with
   |e=>exact⟨fun h=>(by cases h),fun _=>rfl⟩
   |i q=>
    obtain⟨h1,h2⟩:=Z9 x p q r;exact⟨fun h=>h1 (by cases h;rfl),fun h=>h2 fun k=>h (by rw[k])⟩
   |o q=>exact⟨fun h=>(by cases h),fun _=>rfl⟩
theorem A7e{n:Nat}{x:Option (Nat×α)}{a:α}:chk n x=some a↔x=some (n,a):=by
 cases x with
 |none=>exact⟨fun h=>(by cases h),fun h=>(by cases h)⟩
 |some q=>
  obtain⟨m,b⟩:=q
  have e:chk n (some (m,b))=bif E9p m n then some b else none:=by
   show @Bool.rec (fun _=>Option α) none (some b) (E9p m n)=_;generalize E9p m n=c;cases c<;>rfl
  rw[e];cases hb:E9p m n
  ·refine⟨fun h=>(by cases h),fun h=>?_⟩;cases h;simp at hb
  ·have:=E9m hb
   subst this;exact⟨fun h=>(by cases h;rfl),fun h=>by cases h;rfl⟩
theorem A4v(n:Nat):get n (.lf:Tr α)=none:=by unfold get;rw[U1];rfl
theorem A1m{n m:Nat}{a y:α}{t:Tr α}(h:get m (set n a t)=some y):(m=n∧y=a)∨(m≠n∧get m t=some y):=by
 unfold get set setk at h;obtain⟨h1,h2⟩:=Z9 (some (n,a)) (A2r A2t n) (A2r A2t m) t;rw[A7e] at h;by_cases hp:A2r A2t m=A2r A2t n
 ·rw[h1 hp] at h;cases h;exact .inl ⟨rfl,rfl⟩
 ·rw[h2 hp] at h;refine .inr ⟨fun e=>hp (by rw[e]),?_⟩;unfold get;rw[A7e];exact h
theorem C4t(n:Nat)(a:α)(t:Tr α):get n (set n a t)=some a:=by
 unfold get set setk;rw[A7e];exact(Z9 (some (n,a)) (A2r A2t n) (A2r A2t n) t).1 rfl
theorem A1n{n m:Nat}{y:α}{t:Tr α}(h:get m (del n t)=some y):m≠n∧get m t=some y:=by
 unfold get del delk at h;obtain⟨h1,h2⟩:=Z9 none (A2r A2t n) (A2r A2t m) t;rw[A7e] at h;by_cases hp:A2r A2t m=A2r A2t n
 ·rw[h1 hp] at h;cases h
 ·rw[h2 hp] at h;refine⟨fun e=>hp (by rw[e]),?_⟩;unfold get;rw[A7e];exact h
end
end
noncomputable section
open Go Go.Eng
structure PE where
 j:Nat
 k:Nat
 us:List Nat
 anc:List Nat
 re:List (Nat×List Nat)
abbrev I4:=List (Nat×List PE×List Nat)
abbrev J8:=Nat→Prop
inductive Cap where
 |fix (c:Nat)
 |rest (i:Nat)
inductive VV where
 |bool (b:Bool)
 |int (k:IntKind) (n:Int)
 |str (s:List Nat)
 |nilp
 |ptr (b o:Nat)
 |nils
 |sl (b o len:Nat) (c:Cap)
 |sle (b o o' i:Nat)
 |nilm
 |map (b:Nat)
 |fn (f:Fn) (fs cs:List VV)
 |nilf
 |yld (b:Nat)
 |iface (t:Nat) (v:VV)
 |nili
 |agg (l:List VV)
 |tup (l:List VV)
inductive VO where
 |cells (l:List VV) (ty sz:Nat)
 |map (es:List (VV×VV×Nat)) (clock:Nat)
 |miter (m:Option Nat) (since:Nat) (seen:List Nat) (last:Nat)
 |siter (s:List Nat) (pos:Nat)
 |row (l:List VV) (ty sz:Nat)
 |loop (N:Nat) (f:Tr VV) (T:F7) (pl:I4) (ps:List Nat) (assign body:Code) (st:Nat) (pend:Option Code)
def bytesOf(s:List Nat):ByteArray:=⟨(s.map F0d).toArray⟩
structure Loc where
 at_:Nat→Nat
 cap:Nat→Nat
 keep:List (Nat×Obj):=[]
 good:F7→I4→Code→Prop
def Loc.capOf(ρ:Loc)(b:Nat):Cap→Nat
 | .fix c=>c
 | .rest i=>ρ.cap b-i
mutual
def C2(ρ:Loc):VV→Value
 | .bool b=>.bool b
 | .int k n=>.int k n
 | .str s=>.string (bytesOf s)
 | .nilp=>.pointer none
 | .ptr b o=>.pointer (some ⟨ρ.at_ b,o,none⟩)
 | .nils=>.slice none 0 0
 | .sl b o len c=>.slice (some ⟨ρ.at_ b,o,none⟩) len (ρ.capOf b c)
 | .sle b o o' i=>.slice (some ⟨ρ.at_ b,if ρ.cap b-i=0 then o else o',none⟩) 0 (ρ.cap b-i)
 | .nilm=>.map none
 | .map b=>.map (some (ρ.at_ b))
 | .fn f fs cs=>.func f (C3 ρ fs).toArray (C3 ρ cs).toArray
 | .nilf=>.nilFunc
 | .yld b=>.func (.yield (ρ.at_ b)) #[] #[]
 | .iface t v=>.iface t (C2 ρ v)
 | .nili=>.nilIface
 | .agg l=>.agg (C3 ρ l).toArray
 | .tup l=>.tuple (C3 ρ l).toArray
def C3(ρ:Loc):List VV→List Value
 |[]=>[]
 |v::l=>C2 ρ v::C3 ρ l
end
mutual
def VV.lt(D:J8):VV→Prop
 | .ptr b _=>D b
 | .sl b _ _ _=>D b
 | .sle b _ _ _=>D b
 | .map b=>D b
 | .yld b=>D b
 | .fn _ fs cs=>C5 D fs∧C5 D cs
 | .iface _ v=>v.lt D
 | .agg l=>C5 D l
 | .tup l=>C5 D l
 |_=>True
def C5(D:J8):List VV→Prop
 |[]=>True
 |v::l=>v.lt D∧C5 D l
end
structure Ext0(D:J8)(ρ ρ':Loc):Prop where
 at_:∀b,D b→ρ'.at_ b=ρ.at_ b
 cap:∀b,D b→ρ'.cap b=ρ.cap b
 good:ρ'.good=ρ.good
structure Ext(D:J8)(ρ ρ':Loc):Prop extends Ext0 D ρ ρ' where
 keep:ρ'.keep=ρ.keep
def J8.le(D D':J8):Prop:=∀b,D b→D' b
theorem J8.le.refl(D:J8):D.le D:=fun _ h=>h
theorem Ext0.trans0{D D':J8}{ρ ρ' ρ'':Loc}(h:Ext0 D ρ ρ')(k:Ext0 D' ρ' ρ'')(hD:D.le D'):Ext0 D ρ ρ'':=
 ⟨fun b hb=>(k.at_ b (hD b hb)).trans (h.at_ b hb),fun b hb=>(k.cap b (hD b hb)).trans (h.cap b hb),k.good.trans h.good⟩
theorem Ext.refl(D:J8)(ρ:Loc):Ext D ρ ρ:=⟨⟨fun _ _=>rfl,fun _ _=>rfl,rfl⟩,rfl⟩
theorem Ext.trans{D D':J8}{ρ ρ' ρ'':Loc}(h:Ext D ρ ρ')(k:Ext D' ρ' ρ'')(hD:D.le D'):Ext D ρ ρ'':=
 ⟨⟨fun b hb=>(k.at_ b (hD b hb)).trans (h.at_ b hb),fun b hb=>(k.cap b (hD b hb)).trans (h.cap b hb),k.good.trans h.good⟩,k.keep.trans h.keep⟩
theorem Ext0.capOf{D:J8}{ρ ρ':Loc}(h:Ext0 D ρ ρ'){b:Nat}(hb:D b)(c:Cap):ρ'.capOf b c=ρ.capOf b c:=by
 cases c with
 |fix c=>rfl
 |rest i=>simp only[Loc.capOf,h.cap b hb]
mutual
theorem S4{D:J8}{ρ ρ':Loc}(h:Ext0 D ρ ρ'):∀v:VV,v.lt D→C2 ρ' v=C2 ρ v
 | .bool b,_| .int k m,_| .str s,_| .nilp,_| .nils,_| .nilm,_| .nilf,_| .nili,_=>by simp only[C2]
 | .ptr b o,hl=>by simp only[C2,h.at_ b (by simpa only[VV.lt] using hl)]
 | .sl b o len c,hl=>by
   have hb:D b:=by simpa only[VV.lt] using hl
   simp only[C2,h.at_ b hb,h.capOf hb]
 | .sle b o o' i,hl=>by
   have hb:D b:=by simpa only[VV.lt] using hl
   simp only[C2,h.at_ b hb,h.cap b hb]
 | .map b,hl=>by simp only[C2,h.at_ b (by simpa only[VV.lt] using hl)]
 | .yld b,hl=>by simp only[C2,h.at_ b (by simpa only[VV.lt] using hl)]
 | .fn f fs cs,hl=>by
   simp only[VV.lt] at hl;simp only[C2,Q8 h fs hl.1,Q8 h cs hl.2]
 | .iface t v,hl=>by
   simp only[VV.lt] at hl;simp only[C2,S4 h v hl]
 | .agg l,hl=>by
   simp only[VV.lt] at hl;simp only[C2,Q8 h l hl]
 | .tup l,hl=>by
   simp only[VV.lt] at hl;simp only[C2,Q8 h l hl]
theorem Q8{D:J8}{ρ ρ':Loc}(h:Ext0 D ρ ρ'):∀l:List VV,C5 D l→C3 ρ' l=C3 ρ l
 |[],_=>by simp only[C3]
 |v::l,hl=>by
  simp only[C5] at hl;simp only[C3,S4 h v hl.1,Q8 h l hl.2]
end
theorem A9z{D:J8}{ρ ρ':Loc}(h:Ext D ρ ρ')(v:VV)(hl:v.lt D):C2 ρ' v=C2 ρ v:=S4 h.toExt0 v hl
theorem B0h{D:J8}{ρ ρ':Loc}(h:Ext D ρ ρ')(l:List VV)(hl:C5 D l):C3 ρ' l=C3 ρ l:=Q8 h.toExt0 l hl
mutual
theorem VV.lt_mono{D D':J8}(h:D.le D'):∀v:VV,v.lt D→v.lt D'
 | .bool b,_| .int k m,_| .str s,_| .nilp,_| .nils,_| .nilm,_| .nilf,_| .nili,_=>by simp only[VV.lt]
 | .ptr b o,hl=>by simp only[VV.lt] at hl⊢;exact h b hl
 | .sl b o len c,hl=>by simp only[VV.lt] at hl⊢;exact h b hl
 | .sle b o o' i,hl=>by simp only[VV.lt] at hl⊢;exact h b hl
 | .map b,hl=>by simp only[VV.lt] at hl⊢;exact h b hl
 | .yld b,hl=>by simp only[VV.lt] at hl⊢;exact h b hl
 | .fn f fs cs,hl=>by simp only[VV.lt] at hl⊢;exact⟨J5 h fs hl.1,J5 h cs hl.2⟩
 | .iface t v,hl=>by simp only[VV.lt] at hl⊢;exact VV.lt_mono h v hl
 | .agg l,hl=>by simp only[VV.lt] at hl⊢;exact J5 h l hl
 | .tup l,hl=>by simp only[VV.lt] at hl⊢;exact J5 h l hl
theorem J5{D D':J8}(h:D.le D'):∀l:List VV,C5 D l→C5 D' l
 |[],_=>by simp only[C5]
 |v::l,hl=>by simp only[C5] at hl⊢;exact⟨VV.lt_mono h v hl.1,J5 h l hl.2⟩
end
theorem F2(ρ:Loc):∀l:List VV,C3 ρ l=l.map (C2 ρ)
 |[]=>by simp only[C3,List.map_nil]
 |v::l=>by simp only[C3,F0w,F2 ρ l]
theorem C6{D:J8}:∀{l:List VV},C5 D l↔∀v∈l,v.lt D
 |[]=>by simp[C5]
 |v::l=>by simp[C5,C6 (l:=l)]
def VO.lt(D:J8):VO→Prop
 | .cells l _ _=>C5 D l
 | .map es _=>∀e∈es,e.1.lt D∧e.2.1.lt D
 | .miter (some m) _ _ _=>D m
 | .miter none _ _ _=>True
 | .siter _ _=>True
 | .row l _ _=>C5 D l
 | .loop _ f _ _ _ _ _ _ _=>∀t v,get t f=some v→v.lt D
def E2u:Nat→LoopState
 |0=>.ready
 |1=>.busy
 |_=>.done
def V3(ρ:Loc)(b:Nat):VO→Obj→Prop
 | .cells l ty sz,o=>∃sp:List Value,o=.cells (C3 ρ l++sp).toArray ty (0,0)∧l.length+sp.length=ρ.cap b*sz
 | .map es clock,o=>o=.map (es.map fun e=>(⟨C2 ρ e.1,C2 ρ e.2.1,e.2.2⟩:MapEntry)).toArray clock
 | .miter m since seen last,o=>o=.mapIter (m.map ρ.at_) since seen.toArray last
 | .siter s pos,o=>o=.stringIter (bytesOf s) pos
 | .row l ty sz,o=>∃(sp:List Value)(fz:Nat×Nat),o=.cells (C3 ρ l++sp).toArray ty fz∧l.length+sp.length=ρ.cap b*sz
 | .loop N f T pl ps assign body st pend,o=>ρ.good T pl assign∧ρ.good T pl body∧∃(fr:Fr)(fn dfr:Nat),(∀t v,get t f=some v→fr t=C2 ρ v)∧o=.loop {state:=E2u st,pending:=pend,fn,tmps:=(ofF N fr).tmps,params:=ps.toArray,assign,body,defers:=dfr}
theorem V3.ext0{D:J8}{ρ ρ':Loc}(h:Ext0 D ρ ρ'){b:Nat}(hb:D b){vo:VO}(hl:vo.lt D){o:Obj}(k:V3 ρ b vo o):V3 ρ' b vo o:=by
 cases vo with
 |cells l ty sz=>
  obtain⟨sp,h1,h2⟩:=k;exact⟨sp,by rw[Q8 h l hl];exact h1,by rw[h.cap b hb];exact h2⟩
 |map es clock=>
  refine Eq.trans (show o=_ from k) ?_;congr 2;refine List.map_congr_left fun e he=>?_
  rw[S4 h _ (hl e he).1,S4 h _ (hl e he).2]
 |miter m since seen last=>
  cases m with
  |none=>exact k
  |some m=>
   have hm:ρ'.at_ m=ρ.at_ m:=h.at_ m hl;refine Eq.trans (show o=_ from k) ?_;simp only[F1q,hm]
 |siter s pos=>exact k
 |row l ty sz=>
  obtain⟨sp,fz,h1,h2⟩:=k;exact⟨sp,fz,by rw[Q8 h l hl];exact h1,by rw[h.cap b hb];exact h2⟩
 |loop N f T pl ps assign body st pend=>
  obtain⟨h1,h2,fr,fn,dfr,h3,h4⟩:=k;refine⟨by rw[h.good];exact h1,by rw[h.good];exact h2,fr,fn,dfr,fun t v hv=>?_,h4⟩;rw[S4 h v (hl t v hv)];exact h3 t v hv
theorem V3.ext{D:J8}{ρ ρ':Loc}(h:Ext D ρ ρ'){b:Nat}(hb:D b){vo:VO}(hl:vo.lt D){o:Obj}(k:V3 ρ b vo o):V3 ρ' b vo o:=k.ext0 h.toExt0 hb hl
theorem VO.lt_mono{D D':J8}(h:D.le D'){vo:VO}(hl:vo.lt D):vo.lt D':=by
 cases vo with
 |cells l ty sz=>exact J5 h l hl
 |map es clock=>exact fun e he=>⟨VV.lt_mono h _ (hl e he).1,VV.lt_mono h _ (hl e he).2⟩
 |miter mm since seen last=>
  cases mm with
  |none=>trivial
  |some k=>exact h k hl
 |siter s pos=>trivial
 |row l ty sz=>exact J5 h l hl
 |loop N f T pl ps assign body st pend=>exact fun t v hv=>VV.lt_mono h v (hl t v hv)
abbrev VH:=Tr (Bool×VO)
structure LayP(ρ:Loc)(D:J8)(S:Nat→Bool→VO→Prop)(i:Imm)(L:SH):Prop where
 ok:∀k fz vo,S k fz vo→D k∧vo.lt D∧∃o,V3 ρ k vo o∧if fz=true then i.blk (ρ.at_ k)=some o else(ρ.at_ k,o)∈L
 inj:∀k k' vo vo',S k false vo→S k' false vo'→ρ.at_ k=ρ.at_ k'→k=k'
 frm:∀p∈ρ.keep,p∈L∧∀k vo,S k false vo→ρ.at_ k≠p.1
abbrev X7(ρ:Loc)(D:J8)(h:VH)(i:Imm)(L:SH):Prop:=LayP ρ D (fun k fz vo=>get k h=some (fz,vo)) i L
theorem LayP.sub{ρ:Loc}{D:J8}{S S':Nat→Bool→VO→Prop}{i:Imm}{L:SH}(h:LayP ρ D S i L)(k:∀q fz vo,S' q fz vo→S q fz vo):LayP ρ D S' i L:=
 ⟨fun q fz vo hq=>h.ok q fz vo (k _ _ _ hq),fun q q' vo vo' hq hq'=>h.inj q q' vo vo' (k _ _ _ hq) (k _ _ _ hq'),fun p hp=>⟨(h.frm p hp).1,fun q vo hq=>(h.frm p hp).2 q vo (k _ _ _ hq)⟩⟩
theorem LayP.mono{ρ:Loc}{D D':J8}{S:Nat→Bool→VO→Prop}{i:Imm}{L:SH}(h1:LayP ρ D S i L)(hD:D.le D'):LayP ρ D' S i L:=
 ⟨fun k fz vo hk=>let⟨a,b,c⟩:=h1.ok k fz vo hk;⟨hD k a,VO.lt_mono hD b,c⟩,h1.inj,h1.frm⟩
def G5(ρ:Loc)(D:J8)(f:Tr VV)(fr:Fr):Prop:=∀t v,get t f=some v→v.lt D∧fr t=C2 ρ v
theorem G5.ext{D D':J8}{ρ ρ':Loc}{f:Tr VV}{fr:Fr}(h:G5 ρ D f fr)(e:Ext D ρ ρ')(hm:D.le D'):G5 ρ' D' f fr:=fun t v hv=>
 ⟨VV.lt_mono hm v (h t v hv).1,by rw[A9z e v (h t v hv).1];exact(h t v hv).2⟩
theorem G5.upd{D:J8}{ρ:Loc}{f:Tr VV}{fr:Fr}(h:G5 ρ D f fr){d:Nat}{v:VV}(hv:v.lt D):G5 ρ D (set d v f) (upd fr d (C2 ρ v)):=by
 intro t u hu;rcases A1m hu with⟨rfl,rfl⟩|⟨hne,hu⟩
 ·exact⟨hv,K2 ..⟩
 ·rw[M8 _ _ hne];exact h t u hu
end
noncomputable section
open Go Go.Eng
def ofC:Value→Option VV
 | .bool b=>some (.bool b)
 | .int k n=>some (.int k n)
 | .string s=>some (.str (s.data.toList.map UInt8.toNat))
 | .pointer none=>some .nilp
 | .slice none 0 0=>some .nils
 | .map none=>some .nilm
 | .nilFunc=>some .nilf
 | .nilIface=>some .nili
 |_=>none
def evO(N G:Nat)(f:Tr VV):Operand→Option VV
 | .tmp t=>bif F0e t N then get t f else none
 | .const v=>ofC v
 | .global g=>bif F0e g G then some (.ptr g 0) else none
 | .func g=>some (.fn (.func g) [] [])
theorem D0e(l:List UInt8):(l.map UInt8.toNat).map F0d=l:=by
 rw[List.map_map]
 conv=>rhs;rw[←List.map_id l]
 refine List.map_congr_left fun b _=>?_
 simp
theorem C0b(s:ByteArray):bytesOf (s.data.toList.map UInt8.toNat)=s:=by
 unfold bytesOf;rw[D0e]
theorem C2t{v:Value}{u:VV}(h:ofC v=some u)(ρ:Loc)(D:J8):u.lt D∧C2 ρ u=v:=by
 unfold ofC at h;split at h<;>cases h<;>simp[VV.lt,C2,C0b]
structure Glob(Γ:F7→I4→Code→Prop)(ρ:Loc)(D:J8)(G:Nat):Prop where
 gd:ρ.good=Γ
 le:∀b,b<G→D b
 at_:∀b,b<G→ρ.at_ b=b
theorem Glob.ext{Γ:F7→I4→Code→Prop}{ρ ρ':Loc}{D D':J8}{G:Nat}(h:Glob Γ ρ D G)(e:Ext D ρ ρ')(hm:D.le D'):Glob Γ ρ' D' G:=
 ⟨e.good.trans h.gd,fun b hb=>hm b (h.le b hb),fun b hb=>(e.at_ b (h.le b hb)).trans (h.at_ b hb)⟩
section
variable{Γ:F7→I4→Code→Prop}{ρ:Loc}{D:J8}{N G:Nat}{f:Tr VV}{fr:Fr}
theorem D5(hS:G5 ρ D f fr)(hG:Glob Γ ρ D G){x:Operand}{v:VV}(h:evO N G f x=some v):v.lt D∧ev N fr x=C2 ρ v:=by
 cases x with
 |tmp t=>
  simp only[evO] at h;cases hb:F0e t N with
  |false=>rw[hb] at h;cases h
  |true=>
   rw[hb] at h
   have:=hS t v h
   simp only[ev,hb,cond_true];exact this
 |const u=>exact⟨(C2t h ρ D).1,(C2t h ρ D).2.symm⟩
 |global g=>
  simp only[evO] at h;cases hb:F0e g G with
  |false=>rw[hb] at h;cases h
  |true=>
   rw[hb] at h;cases h;have hlt:g<G:=by simpa [F1j] using hb
   refine⟨?_,?_⟩
   ·simp only[VV.lt];exact hG.le g hlt
   ·simp only[ev,C2,hG.at_ g hlt]
 |func g=>
  cases h;simp[VV.lt,C5,ev,C2,C3]
def binI(op:BinOp)(k:IntKind)(a b:Int):Option VV:=
 match op with
 | .add=>some (.int k (k.wrap (a+b)))
 | .sub=>some (.int k (k.wrap (a-b)))
 | .mul=>some (.int k (k.wrap (a*b)))
 | .quo=>bif decide (b=0) then none else some (.int k (k.wrap (a.tdiv b)))
 | .rem=>bif decide (b=0) then none else some (.int k (a.tmod b))
 | .and=>some (.int k (k.wrap (BitVec.ofInt k.bits a&&& BitVec.ofInt k.bits b).toNat))
 | .or=>some (.int k (k.wrap (BitVec.ofInt k.bits a|||BitVec.ofInt k.bits b).toNat))
 | .xor=>some (.int k (k.wrap (BitVec.ofInt k.bits a ^^^ BitVec.ofInt k.bits b).toNat))
 | .andNot=>some (.int k (k.wrap (BitVec.ofInt k.bits a&&& ~~~(BitVec.ofInt k.bits b)).toNat))
 | .eql=>some (.bool (decide (a=b)))
 | .neq=>some (.bool (!decide (a=b)))
 | .lss=>some (.bool (decide (a<b)))
 | .leq=>some (.bool (decide (a≤b)))
 | .gtr=>some (.bool (decide (b<a)))
 | .geq=>some (.bool (decide (b≤a)))
 |_=>none
def shI(op:BinOp)(k:IntKind)(a b:Int):Option VV:=
 bif decide (b<0) then none else
 match op with
 | .shl=>some (.int k (k.wrap (a*2 ^ (min b.toNat k.bits))))
 | .shr=>some (.int k (a.fdiv (2 ^ (min b.toNat k.bits))))
 |_=>none
def isSh:BinOp→Bool
 | .shl=>true
 | .shr=>true
 |_=>false
variable{P:Program}{T:F7}{dst:Option Nat}{ty:TypeId}{pos:String}{B4:Array Edge}{gd:Option (Nat×Bool)}{t t2:Nat}{x y:Operand}
theorem binI_ok{op:BinOp}{k:IntKind}{a b:Int}{v:VV}(hx:ev N fr x=.int k a)(hy:ev N fr y=.int k b)(h:binI op k a b=some v):v.lt D∧PV P N fr ⟨dst,.binOp op t x y t2,ty,pos,B4,gd⟩ (C2 ρ v):=by
 unfold binI at h;split at h
 case h_4=>
  cases hb:decide (b=0) with
  |true=>rw[hb] at h;cases h
  |false=>
   rw[hb] at h;cases h;have hb0:b≠0:=by simpa using hb
   refine⟨by simp[VV.lt],?_⟩;unfold PV;intro w;simp[execOp,hx,hy,eqGuard,binOp,Op.intDiv,hb0,C2]
 case h_5=>
  cases hb:decide (b=0) with
  |true=>rw[hb] at h;cases h
  |false=>
   rw[hb] at h;cases h;have hb0:b≠0:=by simpa using hb
   refine⟨by simp[VV.lt],?_⟩;unfold PV;intro w;simp[execOp,hx,hy,eqGuard,binOp,Op.intDiv,hb0,C2]
 case h_16=>cases h
 all_goals
  cases h;refine⟨by simp[VV.lt],?_⟩;unfold PV;intro w;simp[execOp,hx,hy,eqGuard,binOp,Op.intArith,Op.intBits,Op.intCmp,C2]
 all_goals try rfl
theorem shI_ok{op:BinOp}{k k':IntKind}{a b:Int}{v:VV}(hx:ev N fr x=.int k a)(hy:ev N fr y=.int k' b)(h:shI op k a b=some v):v.lt D∧PV P N fr ⟨dst,.binOp op t x y t2,ty,pos,B4,gd⟩ (C2 ρ v):=by
 unfold shI at h;cases hb:decide (b<0) with
 |true=>rw[hb] at h;cases h
 |false=>
  rw[hb] at h;have hb0:¬b<0:=by simpa using hb
  simp only[cond_false] at h;split at h
  ·cases h;refine⟨by simp[VV.lt],?_⟩;unfold PV;intro w;simp[execOp,hx,hy,eqGuard,binOp,Op.shift,hb0,C2]
  ·cases h;refine⟨by simp[VV.lt],?_⟩;unfold PV;intro w;simp[execOp,hx,hy,eqGuard,binOp,Op.shift,hb0,C2]
  ·cases h
end
end
noncomputable section
open Go Go.Eng
def eqS:List Nat→List Nat→Bool
 |[],[]=>true
 |a::p,b::q=>E9p (F1m a 256) (F1m b 256)&&eqS p q
 |_,_=>false
def ltS:List Nat→List Nat→Bool
 |_,[]=>false
 |[],_::_=>true
 |a::p,b::q=>F0e (F1m a 256) (F1m b 256)||(E9p (F1m a 256) (F1m b 256)&&ltS p q)
def nth{α:Type}:List α→Nat→Option α
 |[],_=>none
 |a::_,0=>some a
 |_::l,k+1=>nth l k
theorem W5{α:Type}:∀(l:List α)(k:Nat),nth l k=l[k]?
 |[],_=>by simp[nth]
 |_::_,0=>by simp[nth]
 |_::l,k+1=>by simp[nth,W5 l k]
theorem beqN(a b:Nat):E9p (F1m a 256) (F1m b 256)=true↔a % 256=b % 256:=⟨E9m,fun h=>by rw[show F1m a 256=a % 256 from rfl,h];exact Nat.beq_refl _⟩
theorem A4e{a b:Nat}:F0d a=F0d b↔a % 256=b % 256:=by
 rw[←UInt8.toNat_inj];simp
theorem B6j:∀p q:List Nat,eqS p q=decide (bytesOf p=bytesOf q):=by
 have key:∀p q:List Nat,eqS p q=true↔p.map F0d=q.map F0d:=by
  intro p;induction p with
  |nil=>intro q;cases q<;>simp[eqS]
  |cons a p ih=>
   intro q;cases q with
   |nil=>simp[eqS]
   |cons b q=>
    have h:=A4e (a:=a) (b:=b);simp only[eqS,E9j,ih q,F0w,List.cons.injEq,h];rw[beqN]
 intro p q;rw[Bool.eq_iff_iff,key,decide_eq_true_iff];unfold bytesOf;constructor
 ·intro h;rw[h]
 ·intro h
  have:=congrArg (fun b:ByteArray=>b.data.toList) h
  simpa using this
theorem A7p(p:List Nat):(bytesOf p).toList=p.map F0d:=by
 rw[ByteArray.toList_eq];simp[bytesOf]
theorem ltS_ok:∀p q:List Nat,ltS p q=Op.bytesLess (bytesOf p).toList (bytesOf q).toList:=by
 intro p q;rw[A7p,A7p];induction p generalizing q with
 |nil=>cases q<;>simp[ltS,Op.bytesLess]
 |cons a p ih=>
  cases q with
  |nil=>simp[ltS,Op.bytesLess]
  |cons b q=>
   have h1:F0e (F1m a 256) (F1m b 256)=decide (F0d a<F0d b):=by
    rw[Bool.eq_iff_iff,decide_eq_true_iff,UInt8.lt_iff_toNat_lt];rw[F1j];simp;rfl
   have h2:E9p (F1m a 256) (F1m b 256)=(F0d a==F0d b):=by
    rw[Bool.eq_iff_iff,beq_iff_eq,A4e];exact beqN a b
   simp only[ltS,F0w,Op.bytesLess,ih q,h1,h2]
theorem B9j(p q:List Nat):bytesOf (p++q)=bytesOf p++bytesOf q:=by
 apply ByteArray.ext;simp[bytesOf]
theorem U7(p:List Nat):(bytesOf p).size=p.length:=by simp[bytesOf,ByteArray.size]
end
noncomputable section
open Go Go.Eng
section
variable{Γ:F7→I4→Code→Prop}{ρ:Loc}{D:J8}{N G:Nat}{f:Tr VV}{fr:Fr}{P:Program}{T:F7}{dst:Option Nat}{ty:TypeId}{pos:String}{B4:Array Edge}{gd:Option (Nat×Bool)}{t t2:Nat}{x y:Operand}
def binS(op:BinOp)(a b:List Nat):Option VV:=
 match op with
 | .add=>bif F0n (a.length+b.length) 9223372036854775807 then some (.str (a++b)) else none
 | .eql=>some (.bool (eqS a b))
 | .neq=>some (.bool (!eqS a b))
 | .lss=>some (.bool (ltS a b))
 | .leq=>some (.bool (ltS a b||eqS a b))
 | .gtr=>some (.bool (!(ltS a b||eqS a b)))
 | .geq=>some (.bool (!ltS a b))
 |_=>none
theorem beqS(a b:List Nat):((bytesOf a).toList==(bytesOf b).toList)=eqS a b:=by
 rw[B6j,Bool.eq_iff_iff,beq_iff_eq,decide_eq_true_iff];exact⟨A2u,fun h=>by rw[h]⟩
theorem binS_ok{op:BinOp}{a b:List Nat}{v:VV}(hx:ev N fr x=.string (bytesOf a))(hy:ev N fr y=.string (bytesOf b))(h:binS op a b=some v):v.lt D∧PV P N fr ⟨dst,.binOp op t x y t2,ty,pos,B4,gd⟩ (C2 ρ v):=by
 unfold binS at h;split at h
 case h_1=>
  cases hb:F0n (a.length+b.length) 9223372036854775807 with
  |false=>rw[hb] at h;cases h
  |true=>
   rw[hb] at h;cases h;have hle:=E9w hb;refine⟨by simp[VV.lt],?_⟩;unfold PV;intro w
   have hm:¬(((bytesOf a).size+(bytesOf b).size:Nat):Int) > IntKind.i64.max:=by
    rw[U7,U7];show ¬((a.length+b.length:Nat):Int) > 9223372036854775807;omega
   simp only[execOp,hx,hy,eqGuard,binOp,Op.stringOp,if_neg hm,C2,B9j];rfl
 case h_8=>cases h
 all_goals
  cases h;refine⟨by simp[VV.lt],?_⟩;unfold PV;intro w;simp only[execOp,hx,hy,eqGuard,binOp,Op.stringOp,C2,beqS,ltS_ok];rfl
def C3v:TypeDesc→Bool
 | .bool=>true
 |_=>false
def binN(T:F7)(op:BinOp)(t:Nat)(a b:VV):Option Bool:=
 match a,b with
 | .bool p,.bool q=>bif R5 T C3v t then some (p==q) else none
 | .nilp,.nilp=>bif R5 T T5 t then some true else none
 | .nilp,.ptr _ _=>bif R5 T T5 t then some false else none
 | .ptr _ _,.nilp=>bif R5 T T5 t then some false else none
 | .nils,.nils=>bif R5 T A1e t then some true else none
 | .sl _ _ _ _,.nils=>bif R5 T A1e t then some false else none
 | .nilm,.nilm=>bif R5 T A6w t then some true else none
 | .map _,.nilm=>bif R5 T A6w t then some false else none
 |_,_=>none
theorem D8p(hT:T.ok P){t:Nat}(h:R5 T C3v t=true):P.underlying t=some .bool:=by
 unfold R5 at h;split at h
 ·rename_i e he;have h1:=(B6 hT he).und;cases hd:e.desc with
  |bool=>rw[hd] at h1;exact h1
  |_=>rw[hd] at h;cases h
 ·cases h
theorem A5n{t:Nat}(h:P.underlying t=some .bool)(p q:Bool)(d:Nat)(w:World):(Op.equalIn (d+1) t (.bool p) (.bool q)).run P w=.ok (p==q) w:=by
 simp[Op.equalIn,run_underlying h]
theorem A3b{t:Nat}(h:P.underlying t=some .bool)(p q:Bool)(w:World):(Op.equal t (.bool p) (.bool q)).run P w=.ok (p==q) w:=
 A5n h p q 9999 w
theorem D6z(hT:T.ok P){op:BinOp}{a b:VV}{r:Bool}(hx:ev N fr x=C2 ρ a)(hy:ev N fr y=C2 ρ b)(h:binN T op t a b=some r):
 PV P N fr ⟨dst,.binOp .eql t x y t2,ty,pos,B4,gd⟩ (.bool r)∧PV P N fr ⟨dst,.binOp .neq t x y t2,ty,pos,B4,gd⟩ (.bool (!r)):=by
 unfold binN at h;split at h
 ·cases hb:R5 T C3v t with
  |false=>rw[hb] at h;cases h
  |true=>
   rw[hb] at h;cases h;have he:=D8p hT hb;simp only[C2] at hx hy;constructor<;>(unfold PV;intro w;simp[execOp,hx,hy,eqGuard,binOp,A3b he])
 all_goals first|(cases h;done)|skip
 all_goals
  simp only[C2] at hx hy
 all_goals first
  |(cases hb:R5 T T5 t with
    |false=>rw[hb] at h;cases h
    |true=>
     rw[hb] at h;cases h;obtain⟨e,he⟩:=A4z hT hb;constructor<;>(unfold PV;intro w;simp[execOp,hx,hy,eqGuard,binOp,A2j he,A9f he]))
  |(cases hb:R5 T A1e t with
    |false=>rw[hb] at h;cases h
    |true=>
     rw[hb] at h;cases h;obtain⟨e,he⟩:=B6e hT hb;constructor<;>(unfold PV;intro w;simp[execOp,hx,hy,eqGuard,binOp,B2e he]))
  |(cases hb:R5 T A6w t with
    |false=>rw[hb] at h;cases h
    |true=>
     rw[hb] at h;cases h;obtain⟨k,e,he⟩:=C3h hT hb;constructor<;>(unfold PV;intro w;simp[execOp,hx,hy,eqGuard,binOp,A9g he]))
def E3n(T:F7)(op:BinOp)(t:Nat)(a b:VV):Option VV:=
 match a,b with
 | .int k p,.int k' q=>bif isSh op then shI op k p q else bif decide (k=k') then binI op k p q else none
 | .str p,.str q=>binS op p q
 |a,b=>
  match op with
  | .eql=>(match binN T op t a b with|some r=>some (.bool r)|none=>none)
  | .neq=>(match binN T op t a b with|some r=>some (.bool (!r))|none=>none)
  |_=>none
theorem E6g(hT:T.ok P){op:BinOp}{a b v:VV}(hx:ev N fr x=C2 ρ a)(hy:ev N fr y=C2 ρ b)(h:E3n T op t a b=some v):v.lt D∧PV P N fr ⟨dst,.binOp op t x y t2,ty,pos,B4,gd⟩ (C2 ρ v):=by
 unfold E3n at h;split at h
 ·rename_i k p k' q;simp only[C2] at hx hy;cases hs:isSh op with
  |true=>rw[hs] at h;exact shI_ok hx hy h
  |false=>
   rw[hs] at h;simp only[cond_false] at h;cases hk:decide (k=k') with
   |false=>rw[hk] at h;cases h
   |true=>
    rw[hk] at h
    have:k=k':=of_decide_eq_true hk
    subst this;exact binI_ok hx hy h
 ·simp only[C2] at hx hy;exact binS_ok hx hy h
 ·split at h
  ·split at h
   ·rename_i r hr;cases h;exact⟨by simp[VV.lt],by simp only[C2];exact(D6z hT hx hy hr).1⟩
   ·cases h
  ·split at h
   ·rename_i r hr;cases h;exact⟨by simp[VV.lt],by simp only[C2];exact(D6z hT hx hy hr).2⟩
   ·cases h
  ·cases h
end
end
noncomputable section
open Go Go.Eng
section
variable{Γ:F7→I4→Code→Prop}{ρ:Loc}{D:J8}{N G:Nat}{f:Tr VV}{fr:Fr}{P:Program}{T:F7}{dst:Option Nat}{ty:TypeId}{pos:String}{B4:Array Edge}{gd:Option (Nat×Bool)}
theorem E5(ρ:Loc)(l:List VV):(C3 ρ l).length=l.length:=by rw[F2,F1t]
theorem C8e(ρ:Loc)(l:List VV)(k:Nat):(C3 ρ l)[k]?=(nth l k).map (C2 ρ):=by rw[F2,F0k,W5]
theorem B5f{l:List VV}(h:C5 D l){k:Nat}{v:VV}(hk:nth l k=some v):v.lt D:=by
 rw[W5] at hk;exact C6.1 h v (E9g hk)
def C2h(N G:Nat)(f:Tr VV):List Operand→Option (List VV)
 |[]=>some []
 |x::l=>match evO N G f x with
  |some v=>match C2h N G f l with
   |some r=>some (v::r)
   |none=>none
  |none=>none
theorem A5d(hS:G5 ρ D f fr)(hG:Glob Γ ρ D G):∀{l:List Operand}{r:List VV},C2h N G f l=some r→C5 D r∧l.map (ev N fr)=C3 ρ r
 |[],r,h=>by cases h;simp[C5,C3]
 |x::l,r,h=>by
  simp only[C2h] at h;split at h
  ·rename_i v hv;split at h
   ·rename_i q hq;cases h;obtain⟨h1,h2⟩:=D5 hS hG hv;obtain⟨h3,h4⟩:=A5d hS hG hq;exact⟨by simp only[C5];exact⟨h1,h3⟩,by simp only[F0w,C3,h2,h4]⟩
   ·cases h
  ·cases h
def un(T:F7)(o:Op)(v:VV):Option VV:=
 match o with
 | .move _=>some v
 | .assign _=>some v
 | .nilCheck _=>(match v with
   | .ptr b k=>some (.ptr b k)
   | .fn (.func g) fs cs=>some (.fn (.func g) fs cs)
   | .iface t u=>some (.iface t u)
   |_=>none)
 | .fieldAddr s _ fi=>(match v with
   | .ptr b k=>(match E2y T s fi with|some off=>some (.ptr b (k+off))|none=>none)
   |_=>none)
 | .extract _ ix=>(match v with
   | .tup l=>nth l ix
   |_=>none)
 | .unOp .not _ _=>(match v with
   | .bool b=>some (.bool (!b))
   |_=>none)
 | .unOp .neg _ _=>(match v with
   | .int k a=>some (.int k (k.wrap (0-a)))
   |_=>none)
 | .makeInterface t _=>(match D6 T t with
   |some e=>(match e.desc with
    | .interface _=>none
    |_=>some (.iface t v))
   |none=>none)
 |_=>none
def opnd:Op→Option Operand
 | .move x=>some x
 | .assign x=>some x
 | .nilCheck x=>some x
 | .fieldAddr _ x _=>some x
 | .extract x _=>some x
 | .unOp _ _ x=>some x
 | .makeInterface _ x=>some x
 |_=>none
theorem un_ok(hT:T.ok P){o:Op}{x:Operand}{a v:VV}(ho:opnd o=some x)(hx:ev N fr x=C2 ρ a)(ha:a.lt D)(h:un T o a=some v):v.lt D∧PV P N fr ⟨dst,o,ty,pos,B4,gd⟩ (C2 ρ v):=by
 unfold un at h;split at h
 ·cases ho;cases h;exact⟨ha,B5n (by rw[hx];exact A2c _)⟩
 ·cases ho;cases h;exact⟨ha,A1z (by rw[hx];exact A2c _)⟩
 ·cases ho;split at h
  ·cases h;simp only[C2] at hx⊢;exact⟨ha,B4g hx⟩
  ·cases h;refine⟨ha,?_⟩;simp only[C2] at hx⊢;unfold PV;intro w;simp[execOp,hx]
  ·cases h;refine⟨ha,?_⟩;simp only[C2] at hx⊢;unfold PV;intro w;simp[execOp,hx]
  ·cases h
 ·cases ho;split at h
  ·split at h
   ·rename_i off hoff;cases h;simp only[C2] at hx⊢;exact⟨by simpa only[VV.lt] using ha,A5r hT hx hoff⟩
   ·cases h
  ·cases h
 ·cases ho;split at h
  ·rename_i l;simp only[C2] at hx;simp only[VV.lt] at ha;refine⟨B5f ha h,A5f hx ?_⟩;rw[List.getElem?_toArray,C8e,h];rfl
  ·cases h
 ·cases ho;split at h
  ·cases h;simp only[C2] at hx⊢;exact⟨by simp[VV.lt],E4j hx⟩
  ·cases h
 ·cases ho;split at h
  ·cases h;simp only[C2] at hx⊢;refine⟨by simp[VV.lt],?_⟩;unfold PV;intro w;simp[execOp,hx,Op.unary,Op.intArith]
  ·cases h
 ·cases ho;split at h
  ·rename_i e he;have h1:=(B6 hT he).und;cases hd:e.desc with
   |interface m=>rw[hd] at h;cases h
   |_=>
    rw[hd] at h h1;cases h;refine⟨by simpa only[VV.lt] using ha,?_⟩;simp only[C2];unfold PV;intro w;simp[execOp,hx,Instr.makeInterface,run_underlying h1]
  ·cases h
 ·cases h
def C2w(T:F7)(N G:Nat)(f:Tr VV)(o:Op):Option VV:=
 match o with
 | .pick c a b=>(match evO N G f c with
   |some (.bool true)=>evO N G f a
   |some (.bool false)=>evO N G f b
   |_=>none)
 | .binOp op t x y _=>(match evO N G f x with
   |some a=>(match evO N G f y with
    |some b=>E3n T op t a b
    |none=>none)
   |none=>none)
 | .makeFunc fn a c=>(match C2h N G f a.toList with
   |some fs=>(match C2h N G f c.toList with
    |some cs=>some (.fn fn fs cs)
    |none=>none)
   |none=>none)
 |o=>(match opnd o with
  |some x=>(match evO N G f x with
   |some a=>un T o a
   |none=>none)
  |none=>none)
theorem C1n(hT:T.ok P)(hS:G5 ρ D f fr)(hG:Glob Γ ρ D G){o:Op}{v:VV}(h:C2w T N G f o=some v):v.lt D∧PV P N fr ⟨dst,o,ty,pos,B4,gd⟩ (C2 ρ v):=by
 unfold C2w at h;split at h
 ·split at h
  ·rename_i hc;obtain⟨h1,h2⟩:=D5 hS hG h;have h3:=(D5 hS hG hc).2;simp only[C2] at h3;exact⟨h1,C9u h3 (by rw[h2];exact A2c _)⟩
  ·rename_i hc;obtain⟨h1,h2⟩:=D5 hS hG h;have h3:=(D5 hS hG hc).2;simp only[C2] at h3;exact⟨h1,C9v h3 (by rw[h2];exact A2c _)⟩
  ·cases h
 ·split at h
  ·rename_i a ha;split at h
   ·rename_i b hb;exact E6g hT (D5 hS hG ha).2 (D5 hS hG hb).2 h
   ·cases h
  ·cases h
 ·split at h
  ·rename_i fs hf;split at h
   ·rename_i cs hc;cases h;obtain⟨h1,h2⟩:=A5d hS hG hf;obtain⟨h3,h4⟩:=A5d hS hG hc;refine⟨by simp only[VV.lt];exact⟨h1,h3⟩,?_⟩;simp only[C2];rw[←h2,←h4];exact T9
   ·cases h
  ·cases h
 ·split at h
  ·rename_i x hx;split at h
   ·rename_i a ha;obtain⟨h1,h2⟩:=D5 hS hG ha;exact un_ok hT hx h2 h1 h
   ·cases h
  ·cases h
end
end
noncomputable section
open Go Go.Eng
def Loc.add(ρ:Loc)(n b c:Nat):Loc:=⟨fun k=>if k=n then b else ρ.at_ k,fun k=>if k=n then c else ρ.cap k,ρ.keep,ρ.good⟩
theorem Loc.add_ext(ρ:Loc){D:J8}{n:Nat}(hn:¬D n)(b c:Nat):Ext D ρ (ρ.add n b c):=by
 have:∀k,D k→k≠n:=fun k hk e=>hn (e▸hk)
 exact⟨⟨fun k hk=>by simp[Loc.add,this k hk],fun k hk=>by simp[Loc.add,this k hk],rfl⟩,rfl⟩
def J8.add(D:J8)(n:Nat):J8:=fun b=>D b∨b=n
theorem J8.le_add(D:J8)(n:Nat):D.le (D.add n):=fun _ h=>.inl h
theorem LayP.has{ρ:Loc}{D:J8}{S:Nat→Bool→VO→Prop}{i:Imm}{L:SH}(hL:LayP ρ D S i L){k:Nat}{fz:Bool}{vo:VO}(hk:S k fz vo):D k∧vo.lt D∧∃o,V3 ρ k vo o∧Has i L (ρ.at_ k) o:=by
 obtain⟨h1,h2,o,h3,h4⟩:=hL.ok k fz vo hk;refine⟨h1,h2,o,h3,?_⟩;split at h4
 ·exact Has.imm h4
 ·exact .inr h4
theorem LayP.push{ρ:Loc}{D:J8}{n:Nat}{S:Nat→Bool→VO→Prop}{i:Imm}{L:SH}(hL:LayP ρ D S i L)(hn:¬D n){b c:Nat}{o:Obj}{vo:VO}(hnd:(((b,o)::L).map Prod.fst).Nodup)(hlt:vo.lt (D.add n))(ho:V3 (ρ.add n b c) n vo o):
 LayP (ρ.add n b c) (D.add n) (fun k fz w=>(k=n∧fz=false∧w=vo)∨(k≠n∧S k fz w)) i ((b,o)::L):=by
 have hb:∀p∈L,p.1≠b:=by
  intro p hp e;simp only[F0w,List.nodup_cons] at hnd;exact hnd.1 (F1k.2 ⟨p,hp,e⟩)
 have hat:∀k,D k→(ρ.add n b c).at_ k=ρ.at_ k:=fun k hk=>(ρ.add_ext hn b c).at_ k hk
 have hn':(ρ.add n b c).at_ n=b:=by simp[Loc.add]
 refine⟨fun k fz vo' hk=>?_,fun k k' vo1 vo2 hk hk' e=>?_,fun p hp=>?_⟩
 ·rcases hk with⟨rfl,rfl,rfl⟩|⟨hne,hk⟩
  ·refine⟨.inr rfl,hlt,o,ho,?_⟩;rw[hn'];simp
  ·obtain⟨h1,h2,o',h3,h4⟩:=hL.ok k fz vo' hk;refine⟨.inl h1,VO.lt_mono (D.le_add n) h2,o',h3.ext (ρ.add_ext hn b c) h1 h2,?_⟩;rw[hat k h1];split at h4
   ·rename_i hf;rw[if_pos hf];exact h4
   ·rename_i hf;rw[if_neg hf];exact E9u _ h4
 ·rcases hk with⟨e1,-⟩|⟨_,g1⟩<;>rcases hk' with⟨e2,-⟩|⟨_,g2⟩
  ·rw[e1,e2]
  ·obtain⟨h1,_,o',_,h4⟩:=hL.ok k' false vo2 g2;rw[e1,hn',hat k' h1] at e;exact absurd e.symm (hb _ (by simpa using h4))
  ·obtain⟨h1,_,o',_,h4⟩:=hL.ok k false vo1 g1;rw[e2,hn',hat k h1] at e;exact absurd e (hb _ (by simpa using h4))
  ·obtain⟨h1,_⟩:=hL.ok k false vo1 g1;obtain⟨h1',_⟩:=hL.ok k' false vo2 g2;rw[hat k h1,hat k' h1'] at e;exact hL.inj k k' vo1 vo2 g1 g2 e
 ·obtain⟨h1,h2⟩:=hL.frm p hp;refine⟨E9u _ h1,fun k w hk e=>?_⟩;rcases hk with⟨rfl,-⟩|⟨_,g1⟩
  ·rw[hn'] at e;exact hb p h1 e.symm
  ·obtain⟨h3,_⟩:=hL.ok k false w g1;rw[hat k h3] at e;exact h2 k w g1 e
theorem D5m{h:VH}{n:Nat}{vo:VO}(k:Nat)(fz:Bool)(w:VO)(hk:get k (set n (false,vo) h)=some (fz,w)):(k=n∧fz=false∧w=vo)∨(k≠n∧get k h=some (fz,w)):=by
 rcases A1m hk with⟨rfl,he⟩|hk
 ·cases he;exact .inl ⟨rfl,rfl,rfl⟩
 ·exact .inr hk
theorem X7.push{ρ:Loc}{D:J8}{n:Nat}{h:VH}{i:Imm}{L:SH}(hL:X7 ρ D h i L)(hn:¬D n){b c:Nat}{o:Obj}{vo:VO}(hnd:(((b,o)::L).map Prod.fst).Nodup)(hlt:vo.lt (D.add n))(ho:V3 (ρ.add n b c) n vo o):
 X7 (ρ.add n b c) (D.add n) (set n (false,vo) h) i ((b,o)::L):=
 (LayP.push hL hn hnd hlt ho).sub D5m
theorem X7.put{ρ:Loc}{D:J8}{h:VH}{i:Imm}{L:SH}(hL:X7 ρ D h i L){k j:Nat}{vo vo':VO}{o o':Obj}(hk:get k h=some (false,vo))(hj:L[j]?=some (ρ.at_ k,o))(hlt:vo'.lt D)(ho:V3 ρ k vo' o'):
 X7 ρ D (set k (false,vo') h) i (L.set j (ρ.at_ k,o')):=by
 have hjl:j<L.length:=(E9e.1 hj).1
 have back:∀q w,get q (set k (false,vo') h)=some (false,w)→∃w',get q h=some (false,w'):=fun q w hq=>by
  rcases A1m hq with⟨rfl,-⟩|⟨_,hq⟩
  ·exact⟨vo,hk⟩
  ·exact⟨w,hq⟩
 have stay:∀(p:Nat×Obj),p∈L→p.1≠ρ.at_ k→p∈L.set j (ρ.at_ k,o'):=fun p hp hne=>by
  obtain⟨q,hq⟩:=List.getElem?_of_mem hp
  have hqj:q≠j:=by
   rintro rfl;rw[hq] at hj;exact hne (congrArg Prod.fst (Option.some.inj hj))
  exact E9g ((F0q (by omega)).trans hq)
 refine⟨fun m fz vo1 hm=>?_,fun m m' vo1 vo2 hm hm' e=>?_,fun p hp=>?_⟩
 ·rcases A1m hm with⟨rfl,he⟩|⟨hne,hm⟩
  ·cases he;refine⟨(hL.ok _ _ _ hk).1,hlt,o',ho,?_⟩;simp only[Bool.false_eq_true,if_false];exact E9g (List.getElem?_set_self hjl)
  ·obtain⟨h1,h2,o1,h3,h4⟩:=hL.ok m fz vo1 hm;refine⟨h1,h2,o1,h3,?_⟩;split at h4
   ·rename_i hf;rw[if_pos hf];exact h4
   ·rename_i hf;rw[if_neg hf];have hf':fz=false:=by simpa using hf
    subst hf';exact stay _ h4 fun e=>hne (hL.inj m k vo1 vo hm hk e)
 ·obtain⟨w1,g1⟩:=back m vo1 hm;obtain⟨w2,g2⟩:=back m' vo2 hm';exact hL.inj m m' w1 w2 g1 g2 e
 ·obtain⟨h1,h2⟩:=hL.frm p hp;exact⟨stay p h1 fun e=>h2 k vo hk e.symm,fun q w hq=>by obtain⟨w',g⟩:=back q w hq;exact h2 q w' g⟩
theorem X7.own{ρ:Loc}{D:J8}{h:VH}{i:Imm}{L:SH}(hL:X7 ρ D h i L){k:Nat}{vo:VO}(hk:get k h=some (false,vo)):∃(o:Obj)(j:Nat),V3 ρ k vo o∧L[j]?=some (ρ.at_ k,o):=by
 obtain⟨_,_,o,h3,h4⟩:=hL.ok k false vo hk;obtain⟨j,hj⟩:=List.getElem?_of_mem (show(ρ.at_ k,o)∈L by simpa using h4);exact⟨o,j,h3,hj⟩
def B3j{α:Type}:Nat→List α→Option (List α)
 |0,_=>some []
 |_+1,[]=>none
 |k+1,a::l=>match B3j k l with
  |some r=>some (a::r)
  |none=>none
def B3q{α:Type}:Nat→List α→List α
 |0,l=>l
 |_+1,[]=>[]
 |k+1,_::l=>B3q k l
theorem A2e{α:Type}:∀{k:Nat}{l r:List α},B3j k l=some r→r=l.take k∧r.length=k
 |0,l,r,h=>by cases h;simp
 |k+1,[],r,h=>by cases h
 |k+1,a::l,r,h=>by
  simp only[B3j] at h;split at h
  ·rename_i q hq;cases h;obtain⟨h1,h2⟩:=A2e hq;exact⟨by rw[h1];rfl,by simp[h2]⟩
  ·cases h
theorem A2f{α:Type}:∀(k:Nat)(l:List α),B3q k l=l.drop k
 |0,l=>rfl
 |_+1,[]=>rfl
 |k+1,_::l=>by rw[B3q,A2f k l];rfl
def E2w(T:F7)(t:Nat)(l:List VV)(o:Nat):Option VV:=
 match D6 T t with
 |some e=>bif K4 e.desc then(match B3j e.size (B3q o l) with|some r=>some (.agg r)|none=>none) else nth l o
 |none=>none
section
variable{Γ:F7→I4→Code→Prop}{ρ:Loc}{D:J8}{N G:Nat}{f:Tr VV}{h:VH}{fr:Fr}{P:Program}{T:F7}{i:Imm}{L:SH}{dst:Option Nat}{ty:TypeId}{pos:String}{B4:Array Edge}{gd:Option (Nat×Bool)}
theorem rdAt_ok(hT:T.ok P){t k o:Nat}{l:List VV}{sp:List Value}{ty':Nat}{fz:Nat×Nat}{x:Operand}{v:VV}(hv:E2w T t l o=some v)(hx:ev N fr x=.pointer (some ⟨ρ.at_ k,o,none⟩))(hl:C5 D l)
 (hb:Has i L (ρ.at_ k) (.cells (C3 ρ l++sp).toArray ty' fz)):v.lt D∧LV P N fr i L ⟨dst,.load t x,ty,pos,B4,gd⟩ (C2 ρ v):=by
 unfold E2w at hv;split at hv
 ·rename_i e he;cases ha:K4 e.desc with
  |true=>
   rw[ha] at hv;simp only[cond_true] at hv;split at hv
   ·rename_i r hr;cases hv;obtain⟨h1,h2⟩:=A2e hr;rw[A2f] at h1;refine⟨?_,?_⟩
    ·simp only[VV.lt];exact C6.2 fun v hv=>C6.1 hl v (F1g (F1d (by rw[←h1];exact hv)))
    ·simp only[C2];refine D9 hT hx hb he ha (by rw[E5,h2]) fun j u hj=>?_
     rw[F2,F0k,h1,List.getElem?_take] at hj;split at hj
     ·rw[F1e] at hj;cases hg:l[o+j]? with
      |none=>rw[hg] at hj;cases hj
      |some c=>
       rw[hg] at hj;cases hj;have hlt:=(E9e.1 hg).1;rw[E9t (by rw[E5];exact hlt),F2,F0k,hg];rfl
     ·cases hj
   ·cases hv
  |false=>
   rw[ha] at hv;simp only[cond_false] at hv;refine⟨B5f hl hv,B2 hT hx hb (by unfold R5;rw[he];simp[ha]) ?_⟩;have hg:l[o]?=some v:=by rw[←W5];exact hv
   have hlt:=(E9e.1 hg).1;rw[E9t (by rw[E5];exact hlt),F2,F0k,hg];rfl
 ·cases hv
def C7y:Option (Bool×VO)→Option (List VV)
 |some (_,.cells l _ _)=>some l
 |some (_,.row l _ _)=>some l
 |_=>none
theorem B6u{S:Nat→Bool→VO→Prop}(hL:LayP ρ D S i L){k:Nat}{x:Option (Bool×VO)}{l:List VV}(hk:∀fz vo,x=some (fz,vo)→S k fz vo)(h:C7y x=some l):C5 D l∧∃(sp:List Value)(ty:Nat)(fz:Nat×Nat),Has i L (ρ.at_ k) (.cells (C3 ρ l++sp).toArray ty fz):=by
 unfold C7y at h;split at h
 ·cases h;obtain⟨_,h4,ob,⟨sp,rfl,_⟩,h6⟩:=hL.has (hk _ _ rfl);exact⟨h4,sp,_,_,h6⟩
 ·cases h;obtain⟨_,h4,ob,⟨sp,fz,rfl,_⟩,h6⟩:=hL.has (hk _ _ rfl);exact⟨h4,sp,_,_,h6⟩
 ·cases h
def B1r(T:F7)(N G:Nat)(f:Tr VV)(h:VH)(o:Op):Option VV:=
 match o with
 | .load t x=>(match evO N G f x with
   |some (.ptr k off)=>(match C7y (get k h) with
    |some l=>E2w T t l off
    |none=>none)
   |_=>none)
 |_=>none
theorem C1m(hT:T.ok P)(hS:G5 ρ D f fr)(hG:Glob Γ ρ D G)(hL:X7 ρ D h i L){o:Op}{v:VV}(hv:B1r T N G f h o=some v):v.lt D∧LV P N fr i L ⟨dst,o,ty,pos,B4,gd⟩ (C2 ρ v):=by
 unfold B1r at hv;split at hv
 ·split at hv
  ·rename_i k off hx;split at hv
   ·rename_i l hk;obtain⟨_,h2⟩:=D5 hS hG hx;simp only[C2] at h2;obtain⟨h4,sp,ty',fz,h6⟩:=B6u (k:=k) hL (fun _ _ e=>e) hk;exact rdAt_ok hT hv h2 h4 h6
   ·cases hv
  ·cases hv
 ·cases hv
end
end
noncomputable section
open Go Go.Eng
def C2e:List Value→Option (List VV)
 |[]=>some []
 |v::l=>match ofC v with
  |some u=>match C2e l with
   |some r=>some (u::r)
   |none=>none
  |none=>none
theorem A1j(ρ:Loc)(D:J8):∀{l:List Value}{r:List VV},C2e l=some r→C5 D r∧C3 ρ r=l
 |[],r,h=>by cases h;simp[C5,C3]
 |v::l,r,h=>by
  simp only[C2e] at h;split at h
  ·rename_i u hu;split at h
   ·rename_i q hq;cases h;obtain⟨h1,h2⟩:=C2t hu ρ D;obtain⟨h3,h4⟩:=A1j ρ D hq;exact⟨by simp only[C5];exact⟨h1,h3⟩,by simp only[C3,h2,h4]⟩
   ·cases h
  ·cases h
def C2z:VV→Option (List VV)
 | .agg l=>some l
 | .tup _=>none
 |v=>some [v]
theorem B2m{ρ:Loc}{D:J8}{v:VV}{l:List VV}(h:C2z v=some l)(hl:v.lt D):C5 D l∧M5 (C2 ρ v)=some (C3 ρ l):=by
 cases v<;>cases h
 all_goals first
  |(simp only[VV.lt] at hl;exact⟨hl,by simp[C2,M5]⟩)
  |exact⟨by simp only[C5];exact⟨hl,trivial⟩,by simp only[C2,C3,M5]⟩
  |exact⟨by simp only[C5];exact⟨by simp only[VV.lt],trivial⟩,by simp only[C2,C3,M5]⟩
def C5m:VV→Bool
 | .agg _=>false
 | .tup _=>false
 |_=>true
theorem C3n{ρ:Loc}{v:VV}(h:C5m v=true):(C2 ρ v).oneCell'=true:=by
 cases v<;>first|(cases h;done)|(simp only[C2];rfl)
def B4p:List VV→Nat→List VV→Option (List VV)
 |l,0,[]=>some l
 |_::l,0,v::vs=>(match B4p l 0 vs with
  |some r=>some (v::r)
  |none=>none)
 |a::l,o+1,vs=>(match B4p l o vs with
  |some r=>some (a::r)
  |none=>none)
 |[],_,_=>none
theorem A2v:∀{l vs r:List VV}{o:Nat},B4p l o vs=some r→o+vs.length≤l.length∧r=l.take o++vs++l.drop (o+vs.length)
 |[],[],r,0,h=>by cases h;simp
 |a::l,[],r,0,h=>by cases h;simp
 |[],v::vs,r,0,h=>by cases h
 |_::l,v::vs,r,0,h=>by
  simp only[B4p] at h;split at h
  ·rename_i q hq;cases h;obtain⟨h1,h2⟩:=A2v hq;refine⟨by simp only[F1h];omega,?_⟩;rw[h2];simp only[List.take_zero,List.nil_append,F1h,F1b,List.cons_append,List.drop_succ_cons]
  ·cases h
 |a::l,vs,r,o+1,h=>by
  simp only[B4p] at h;split at h
  ·rename_i q hq;cases h;obtain⟨h1,h2⟩:=A2v hq;refine⟨by simp only[F1h];omega,?_⟩;rw[h2,show o+1+vs.length=(o+vs.length)+1 by omega];simp only[List.take_succ_cons,List.drop_succ_cons,List.cons_append]
  ·cases h
 |[],vs,r,o+1,h=>by cases vs<;>cases h
structure Eff where
 v:Option VV
 h:VH
 n:Nat
section
variable{Γ:F7→I4→Code→Prop}{ρ:Loc}{D:J8}{n N G:Nat}{f:Tr VV}{h:VH}{fr:Fr}{P:Program}{T:F7}{i:Imm}{L:SH}{dst:Option Nat}{ty:TypeId}{pos:String}{B4:Array Edge}{gd:Option (Nat×Bool)}
def J8.upto(D:J8)(n m:Nat):J8:=fun b=>D b∨(n≤b∧b<m)
theorem J8.le_upto(D:J8)(n m:Nat):D.le (D.upto n m):=fun _ h=>.inl h
def X2(D:J8)(n:Nat):Prop:=∀b,D b→b<n
theorem X2.not{D:J8}{n:Nat}(h:X2 D n):¬D n:=fun k=>Nat.lt_irrefl _ (h n k)
theorem X2.upto{D:J8}{n m:Nat}(h:X2 D n)(hm:n≤m):X2 (D.upto n m) m:=fun b hb=>hb.elim (fun k=>Nat.lt_of_lt_of_le (h b k) hm) And.right
def G3(ρ:Loc)(D:J8)(n:Nat)(e:Eff)(u:Value)(i':Imm)(L':SH):Prop:=
 ∃ρ',Ext D ρ ρ'∧n≤e.n∧X7 ρ' (D.upto n e.n) e.h i' L'∧∀v,e.v=some v→v.lt (D.upto n e.n)∧u=C2 ρ' v
theorem B0v(D:J8)(n:Nat):(D.add n).le (D.upto n (n+1)):=fun b hb=>hb.imp id fun e=>by omega
def B9w(ρ:Loc)(D:J8)(r:Nat)(v:VV)(vo:VO)(i:Imm)(L:SH)(u:Value)(i':Imm)(L':SH):Prop:=
 i'=i∧v.lt (D.add r)∧vo.lt (D.add r)∧∃b ob c,L'=(b,ob)::L∧u=C2 (ρ.add r b c) v∧V3 (ρ.add r b c) r vo ob
theorem A4t{o:Oper}{mk:Nat→Value}{ob:Obj}{vo:VO}{v:VV}{c:Nat}
 (hop:P3 P N o fr i L fun u i' L'=>∃b,u=mk b∧i'=i∧L'=(b,ob)::L) (hlt:vo.lt (D.add n)) (hvl:v.lt (D.add n)) (ho:∀b,V3 (ρ.add n b c) n vo ob) (hv:∀b,mk b=C2 (ρ.add n b c) v):
 P3 P N o fr i L (B9w ρ D n v vo i L):=by
 refine P3.mono hop ?_;rintro u i' L' _ ⟨b,rfl,rfl,rfl⟩;exact⟨rfl,hvl,hlt,b,ob,c,rfl,hv b,ho b⟩
theorem B6y(hL:X7 ρ D h i L)(hD:¬D n){o:Oper}{vo:VO}{v:VV}(hop:P3 P N o fr i L (B9w ρ D n v vo i L)):
 P3 P N o fr i L (G3 ρ D n ⟨some v,set n (false,vo) h,n+1⟩):=by
 refine A8f hop ?_;rintro u i' L' w _ hst ⟨rfl,hvl,hlt,b,ob,c,rfl,hu,ho⟩;refine⟨i',_,Imm.le.refl i',hst,ρ.add n b c,ρ.add_ext hD b c,Nat.le_succ n,(X7.push hL hD hst.nodup hlt ho).mono (B0v D n),fun v' hv'=>?_⟩;cases hv';exact⟨VV.lt_mono (B0v D n) _ hvl,hu⟩
def C4d(T:F7)(t n:Nat):Option (VV×VO):=
 match D4w T t with
 |some zs=>(match C2e zs with
  |some l=>some (.ptr n 0,.cells l t l.length)
  |none=>none)
 |none=>none
theorem D3p(hT:T.ok P)(hD:¬D n){t:Nat}{v:VV}{vo:VO}(he:C4d T t n=some (v,vo)):P3 P N ⟨dst,.alloc t,ty,pos,B4,gd⟩ fr i L (B9w ρ D n v vo i L):=by
 unfold C4d at he;split at he
 ·rename_i zs hz;split at he
  ·rename_i l hl;cases he;refine A4t (mk:=fun b=>.pointer (some ⟨b,0,none⟩)) (ob:=.cells zs.toArray t (0,0)) (c:=1) (A2a hT hz fun b=>⟨b,rfl,rfl,rfl⟩) ?_ (by simp[VV.lt,J8.add]) (fun b=>⟨[],?_,?_⟩) fun b=>?_
   ·exact(A1j ρ (D.add n) hl).1
   ·rw[List.append_nil,(A1j (ρ.add n b 1) D hl).2]
   ·simp[Loc.add]
   ·simp[C2,Loc.add]
  ·cases he
 ·cases he
def E3m(N G:Nat)(f:Tr VV)(t:Nat)(x:Operand)(n:Nat):Option (VV×VO):=
 match evO N G f x with
 |some v=>(match C2z v with
  |some l=>some (.ptr n 0,.cells l t l.length)
  |none=>none)
 |none=>none
theorem E6f(hS:G5 ρ D f fr)(hG:Glob Γ ρ D G)(hD:¬D n){t:Nat}{x:Operand}{v:VV}{vo:VO}(he:E3m N G f t x n=some (v,vo)):P3 P N ⟨dst,.box t x,ty,pos,B4,gd⟩ fr i L (B9w ρ D n v vo i L):=by
 unfold E3m at he;split at he
 ·rename_i u hv;obtain⟨h1,h2⟩:=D5 hS hG hv;split at he
  ·rename_i l hl;cases he;obtain⟨h3,h4⟩:=B2m (ρ:=ρ) hl h1;refine A4t (mk:=fun b=>.pointer (some ⟨b,0,none⟩)) (ob:=.cells (C3 ρ l).toArray t (0,0)) (c:=1) (D7r (by rw[h2];exact h4) fun b=>⟨b,rfl,rfl,rfl⟩) ?_ (by simp[VV.lt,J8.add]) (fun b=>⟨[],?_,?_⟩) fun b=>?_
   ·exact J5 (D.le_add n) l h3
   ·rw[List.append_nil,B0h (ρ.add_ext hD b 1) l h3]
   ·simp[Loc.add]
   ·simp[C2,Loc.add]
  ·cases he
 ·cases he
def C3x(T:F7)(N G:Nat)(f:Tr VV)(t:Nat)(x y:Operand)(h:VH)(n:Nat):Option Eff:=
 match evO N G f x with
 |some (.ptr k o)=>(match evO N G f y with
  |some v=>(match C2z v with
   |some vs=>(match get k h with
    |some (false,.cells l ty' sz)=>(match D6 T t with
     |some e=>bif E9p vs.length e.size&&vs.all C5m then(match B4p l o vs with
      |some l'=>some ⟨none,set k (false,.cells l' ty' sz) h,n⟩
      |none=>none) else none
     |none=>none)
    |_=>none)
   |none=>none)
  |none=>none)
 |_=>none
theorem D3g(hT:T.ok P)(hS:G5 ρ D f fr)(hG:Glob Γ ρ D G)(hL:X7 ρ D h i L)(hD:X2 D n){t:Nat}{x y:Operand}{e:Eff}(he:C3x T N G f t x y h n=some e):P3 P N ⟨dst,.store t x y,ty,pos,B4,gd⟩ fr i L (G3 ρ D n e):=by
 unfold C3x at he;split at he
 ·rename_i k o hx;split at he
  ·rename_i v hv;split at he
   ·rename_i vs hvs;split at he
    ·rename_i l ty' sz hk;split at he
     ·rename_i te hte;cases hb:(E9p vs.length te.size&&vs.all C5m) with
      |false=>rw[hb] at he;cases he
      |true=>
       rw[hb] at he;simp only[cond_true] at he;split at he
       ·rename_i l' hl';cases he;obtain⟨_,h2⟩:=D5 hS hG hx;obtain⟨h3,h4⟩:=D5 hS hG hv;obtain⟨h5,h6⟩:=B2m (ρ:=ρ) hvs h3;obtain⟨ob,j,⟨sp,rfl,hlen⟩,hj⟩:=X7.own hL hk;obtain⟨h7,h8⟩:=A2v hl';simp only[E9j] at hb;simp only[C2] at h2
        have hlt:C5 D l':=by
         have hll:=(hL.ok _ _ _ hk).2.1;refine C6.2 fun u hu=>?_
         rw[h8,E9r,E9r] at hu;rcases hu with(hu|hu)|hu
         ·exact C6.1 hll u (F1d hu)
         ·exact C6.1 h5 u hu
         ·exact C6.1 hll u (F1g hu)
        have hlen':l'.length=l.length:=by rw[h8];simp;omega
        refine J0 hT (cs:=C3 ρ l++sp) (cs':=C3 ρ l'++sp) (vs:=C3 ρ vs) (k:=j) h2 h4 h6 hj ?_ ?_ (U2 _ _ _ _ hj) ?_
        ·unfold R8;rw[hte];simp only[E5,hb.1,Bool.true_and];rw[F0c];intro u hu;rw[F2] at hu;obtain⟨q,hq,rfl⟩:=F1k.1 hu;exact C3n (F0c.1 hb.2 q hq)
        ·rw[T7 _ _ _ (by rw[E9h,E5,E5];omega)];congr 1;rw[h8];simp only[F2,List.map_append,List.map_take,List.map_drop,F1t];rw[List.take_append_of_le_length (by rw[F1t];omega),List.drop_append_of_le_length (by rw[F1t];omega),F0p,F0p,F0p]
        ·exact⟨ρ,Ext.refl D ρ,E9q n,(X7.put hL (vo':=.cells l' ty' sz) hk hj hlt ⟨sp,rfl,by rw[hlen'];exact hlen⟩).mono (D.le_upto n n),fun v hv=>by cases hv⟩
       ·cases he
     ·cases he
    ·cases he
   ·cases he
  ·cases he
 ·cases he
theorem Y6(hL:X7 ρ D h i L){v:VV}(hv:v.lt D):G3 ρ D n ⟨some v,h,n⟩ (C2 ρ v) i L:=
 ⟨ρ,Ext.refl D ρ,E9q n,hL.mono (D.le_upto n n),fun v' hv'=>by cases hv';exact⟨VV.lt_mono (D.le_upto n n) _ hv,rfl⟩⟩
end
end
noncomputable section
open Go Go.Eng
section
variable{Γ:F7→I4→Code→Prop}{ρ:Loc}{D:J8}{N G:Nat}{f:Tr VV}{fr:Fr}{P:Program}{T:F7}{dst:Option Nat}{ty:TypeId}{pos:String}{B4:Array Edge}{gd:Option (Nat×Bool)}
def inR(j:Int)(l:Nat):Bool:=match j with
 | .ofNat k=>F0e k l
 | .negSucc _=>false
theorem D2d{j:Int}{l:Nat}(h:inR j l=true):0≤j∧j<l:=by
 cases j with
 |ofNat k=>
  have:k<l:=by simpa [inR,F1j] using h
  exact⟨Int.natCast_nonneg k,by show((k:Nat):Int)<l;omega⟩
 |negSucc k=>cases h
def D2b(T:F7)(t:Nat)(a b:VV):Option VV:=
 match a,b with
 | .sl k o len _,.int _ j=>(match A3v T t with
   |some sz=>bif inR j len then some (.ptr k (o+j.toNat*sz)) else none
   |none=>none)
 | .ptr k o,.int _ j=>(match D8h T t with
   |some (l,sz)=>bif inR j l then some (.ptr k (o+j.toNat*sz)) else none
   |none=>none)
 |_,_=>none
theorem D9f(hT:T.ok P){t:Nat}{x y:Operand}{a b v:VV}(hx:ev N fr x=C2 ρ a)(ha:a.lt D)(hy:ev N fr y=C2 ρ b)(h:D2b T t a b=some v):v.lt D∧PV P N fr ⟨dst,.indexAddr t x y,ty,pos,B4,gd⟩ (C2 ρ v):=by
 unfold D2b at h;split at h
 ·split at h
  ·rename_i sz hs;simp only[C2] at hx hy;rename_i k o len c kk j _;cases hb:inR j len with
   |false=>rw[hb] at h;cases h
   |true=>
    rw[hb] at h;cases h;refine⟨by simpa only[VV.lt] using ha,?_⟩;simp only[C2];exact A9 hT hx hy hs (D2d hb)
  ·cases h
 ·split at h
  ·rename_i l sz hs;simp only[C2] at hx hy;rename_i k o kk j _;cases hb:inR j l with
   |false=>rw[hb] at h;cases h
   |true=>
    rw[hb] at h;cases h;refine⟨by simpa only[VV.lt] using ha,?_⟩;simp only[C2];exact G6 hT hx hy hs (D2d hb)
  ·cases h
 ·cases h
def ixAt(T:F7)(t:Nat)(a b:VV):Option VV:=
 match a,b with
 | .str s,.int _ j=>bif R5 T P1 t&&inR j s.length then(match nth s j.toNat with
   |some c=>some (.int .u8 ((F1m c 256:Nat):Int))
   |none=>none) else none
 |_,_=>none
theorem ixAt_ok(hT:T.ok P){t:Nat}{x y:Operand}{a b v:VV}(hx:ev N fr x=C2 ρ a)(hy:ev N fr y=C2 ρ b)(h:ixAt T t a b=some v):v.lt D∧PV P N fr ⟨dst,.index t x y,ty,pos,B4,gd⟩ (C2 ρ v):=by
 unfold ixAt at h;split at h
 ·rename_i s k j;cases hb:(R5 T P1 t&&inR j s.length) with
  |false=>rw[hb] at h;cases h
  |true=>
   rw[hb] at h;simp only[cond_true] at h;simp only[E9j] at hb;split at h
   ·rename_i c hc;cases h;simp only[C2] at hx hy⊢;refine⟨by simp only[VV.lt],?_⟩
    have hg:(bytesOf s)[j.toNat]?=some (F0d c):=by
     rw[W5] at hc;obtain⟨hlt,hc'⟩:=E9e.1 hc;have hlt':j.toNat<(bytesOf s).size:=by rw[U7];exact hlt
     rw[getElem?_pos (bytesOf s) j.toNat hlt'];congr 1
     show(bytesOf s).data[j.toNat]=_
     simp[bytesOf,hc']
    have:=A4h (dst:=dst) (ty:=ty) (pos:=pos) (B4:=B4) (gd:=gd) hT hx hy hb.1 (D2d hb.2).1 hg
    have e:(F0d c).toNat=F1m c 256:=by simp;rfl
    rw[e] at this;exact this
   ·cases h
 ·cases h
def lenV(T:F7)(t:Nat)(a:VV):Option VV:=
 match a with
 | .str s=>bif R5 T P1 t then some (.int .i64 (s.length:Int)) else none
 | .nils=>bif R5 T A1e t then some (.int .i64 ((0:Nat):Int)) else none
 | .sl _ _ l _=>bif R5 T A1e t then some (.int .i64 (l:Int)) else none
 | .sle _ _ _ _=>bif R5 T A1e t then some (.int .i64 ((0:Nat):Int)) else none
 |_=>none
theorem lenV_ok(hT:T.ok P){t:Nat}{x:Operand}{a v:VV}(hx:ev N fr x=C2 ρ a)(h:lenV T t a=some v):v.lt D∧PV P N fr ⟨dst,.call ⟨.builtin .len,#[x],#[t]⟩,ty,pos,B4,gd⟩ (C2 ρ v):=by
 unfold lenV at h;split at h
 ·rename_i s;cases hb:R5 T P1 t with
  |false=>rw[hb] at h;cases h
  |true=>
   rw[hb] at h;cases h;simp only[C2] at hx⊢
   have:=D7n (dst:=dst) (ty:=ty) (pos:=pos) (B4:=B4) (gd:=gd) hT hb hx
   rw[U7] at this;exact⟨by simp only[VV.lt],this⟩
 all_goals first|(cases h;done)|skip
 all_goals
  cases hb:R5 T A1e t with
  |false=>rw[hb] at h;cases h
  |true=>
   rw[hb] at h;cases h;simp only[C2] at hx⊢;exact⟨by simp only[VV.lt],C4k hT hb hx⟩
end
end
noncomputable section
open Go Go.Eng
section
variable{Γ:F7→I4→Code→Prop}{ρ:Loc}{D:J8}{n N G:Nat}{f:Tr VV}{h:VH}{fr:Fr}{P:Program}{T:F7}{i:Imm}{L:SH}{dst:Option Nat}{ty:TypeId}{pos:String}{B4:Array Edge}{gd:Option (Nat×Bool)}
def B1q(N G:Nat)(f:Tr VV):List (Nat×Operand)→Option (List (Nat×List VV))
 |[]=>some []
 |(k,x)::l=>(match evO N G f x with
  |some v=>(match C2z v with
   |some vs=>(match B1q N G f l with
    |some r=>some ((k,vs)::r)
    |none=>none)
   |none=>none)
  |none=>none)
theorem A7z(hS:G5 ρ D f fr)(hG:Glob Γ ρ D G):∀{l:List (Nat×Operand)}{r:List (Nat×List VV)},B1q N G f l=some r→(∀p∈r,C5 D p.2)∧Y3 N fr l=some (r.map fun p=>(p.1,C3 ρ p.2))
 |[],r,h=>by cases h;exact⟨(fun p hp=>by cases hp),rfl⟩
 |(k,x)::l,r,h=>by
  simp only[B1q] at h;split at h
  ·rename_i v hv;split at h
   ·rename_i vs hvs;split at h
    ·rename_i q hq;cases h;obtain⟨h1,h2⟩:=D5 hS hG hv;obtain⟨h3,h4⟩:=B2m (ρ:=ρ) hvs h1;obtain⟨h5,h6⟩:=A7z hS hG hq;refine⟨fun p hp=>?_,?_⟩
     ·rcases F0b.1 hp with rfl|hp
      ·exact h3
      ·exact h5 p hp
     ·simp only[Y3,h2,h4,h6,F0w]
    ·cases h
   ·cases h
  ·cases h
def D5c:Nat→Nat→List (Nat×List VV)→Option (List VV)
 |_,_,[]=>some []
 |sz,k,(j,vs)::ps=>bif E9p j k&&E9p vs.length sz then(match D5c sz (k+1) ps with
  |some r=>some (vs++r)
  |none=>none) else none
theorem C1t:∀l r:List Value,C5p.catX l r=some (l++r)
 |[],r=>rfl
 |a::l,r=>by simp only[C5p.catX,C1t l r,List.cons_append]
theorem C9a{sz:Nat}:∀{ps:List (Nat×List VV)}{k:Nat}{r:List VV},D5c sz k ps=some r→(∀p∈ps,C5 D p.2)→C5 D r∧r.length=ps.length*sz∧C5p sz k (ps.map fun p=>(p.1,C3 ρ p.2))=some (C3 ρ r)
 |[],k,r,h,_=>by cases h;exact⟨trivial,by simp,by simp[C5p,C3]⟩
 |(j,vs)::ps,k,r,h,hl=>by
  simp only[D5c] at h;cases hb:(E9p j k&&E9p vs.length sz) with
  |false=>rw[hb] at h;cases h
  |true=>
   rw[hb] at h;simp only[cond_true] at h;split at h
   ·rename_i q hq;cases h;obtain⟨h1,h2,h3⟩:=C9a hq fun p hp=>hl p (E9u _ hp)
    have h0:=hl (j,vs) (F0g ..);simp only[E9j] at hb;have hlen:=E9m hb.2;refine⟨C6.2 fun v hv=>?_,?_,?_⟩
    ·rcases E9r.1 hv with hv|hv
     ·exact C6.1 h0 v hv
     ·exact C6.1 h1 v hv
    ·rw[E9h,h2,hlen,F1h,Nat.succ_mul];omega
    ·simp only[F0w,C5p,E5,hb.1,hb.2,Bool.and_self,cond_true,h3,C1t];simp only[F2,List.map_append]
   ·cases h
def A5q(T:F7)(N G:Nat)(f:Tr VV)(t len:Nat)(parts:List (Nat×Operand))(n:Nat):Option (VV×VO):=
 match D6 T t with
 |some ⟨.slice e,_,_,_⟩=>(match D6 T e with
  |some x=>(match B1q N G f parts with
   |some ps=>bif E9p ps.length len&&F0e 0 x.size&&F0n (len*x.size) 16777216 then(match D5c x.size 0 ps with
    |some cs=>some (.sl n 0 len (.fix len),.cells cs e x.size)
    |none=>none) else none
   |none=>none)
  |none=>none)
 |_=>none
theorem B4y(hT:T.ok P)(hS:G5 ρ D f fr)(hG:Glob Γ ρ D G)(hD:¬D n){t len:Nat}{parts:Array (Nat×Operand)}{v:VV}{vo:VO}(he:A5q T N G f t len parts.toList n=some (v,vo)):
 P3 P N ⟨dst,.buildSlice t len parts,ty,pos,B4,gd⟩ fr i L (B9w ρ D n v vo i L):=by
 unfold A5q at he;split at he
 ·rename_i e0 _ _ _ ht;split at he
  ·rename_i x hx;split at he
   ·rename_i ps hps;cases hb:(E9p ps.length len&&F0e 0 x.size&&F0n (len*x.size) 16777216) with
    |false=>rw[hb] at he;cases he
    |true=>
     rw[hb] at he;simp only[cond_true] at he;split at he
     ·rename_i cs hcs;cases he;obtain⟨h1,h2⟩:=A7z hS hG hps;obtain⟨h3,h4,h5⟩:=C9a (ρ:=ρ) hcs h1;have hb':=hb;simp only[E9j] at hb';have hlen:ps.length=len:=E9m hb'.1.1
      have hbsl:bsl T N fr t len parts.toList=some (e0,C3 ρ cs):=by
       unfold bsl;simp only[ht,hx,h2,F1t,hb,cond_true,h5]
      refine A4t (mk:=fun b=>.slice (some ⟨b,0,none⟩) len len) (ob:=.cells (C3 ρ cs).toArray e0 (0,0)) (c:=len) (A2p hT hbsl fun b=>⟨b,rfl,rfl,rfl⟩) ?_ (by simp[VV.lt,J8.add]) (fun b=>⟨[],?_,?_⟩) fun b=>?_
      ·exact J5 (D.le_add n) cs h3
      ·rw[List.append_nil,B0h (ρ.add_ext hD b len) cs h3]
      ·simp only[List.length_nil,Nat.add_zero,h4,hlen];simp[Loc.add]
      ·simp[C2,Loc.add,Loc.capOf]
     ·cases he
   ·cases he
  ·cases he
 ·cases he
theorem D5z{l vs r:List VV}{o:Nat}(h:B4p l o vs=some r):U9 (C3 ρ l) o (C3 ρ vs)=some (C3 ρ r):=by
 obtain⟨h1,h2⟩:=A2v h;rw[T7 _ _ _ (by rw[E5,E5];exact h1),h2];simp only[F2,List.map_append,List.map_take,List.map_drop,F1t]
def B5j(fs:Array Field)(T:F7):List VV→List (Nat×List VV)→Option (List VV)
 |cs,[]=>some cs
 |cs,(k,vs)::rest=>(match fs[k]? with
  |some fd=>(match D6 T fd.type with
   |some e=>bif E9p vs.length e.size&&F0e 0 vs.length then(match B4p cs fd.offset vs with
    |some cs'=>B5j fs T cs' rest
    |none=>none) else none
   |none=>none)
  |none=>none)
theorem B8x{fs:Array Field}:∀{ps:List (Nat×List VV)}{cs r:List VV},B5j fs T cs ps=some r→(∀p∈ps,C5 D p.2)→C5 D cs→C5 D r∧A6y fs T (C3 ρ cs) (ps.map fun p=>(p.1,C3 ρ p.2))=some (C3 ρ r)
 |[],cs,r,h,_,hc=>by cases h;exact⟨hc,rfl⟩
 |(k,vs)::ps,cs,r,h,hl,hc=>by
  simp only[B5j] at h;split at h
  ·rename_i fd hfd;split at h
   ·rename_i e he;cases hb:(E9p vs.length e.size&&F0e 0 vs.length) with
    |false=>rw[hb] at h;cases h
    |true=>
     rw[hb] at h;simp only[cond_true] at h;split at h
     ·rename_i cs' hp;have h0:=hl (k,vs) (F0g ..)
      have hc':C5 D cs':=by
       rw[(A2v hp).2];refine C6.2 fun v hv=>?_
       rcases E9r.1 hv with hv|hv
       ·rcases E9r.1 hv with hv|hv
        ·exact C6.1 hc v (F1d hv)
        ·exact C6.1 h0 v hv
       ·exact C6.1 hc v (F1g hv)
      obtain⟨h1,h2⟩:=B8x h (fun p hp=>hl p (E9u _ hp)) hc';refine⟨h1,?_⟩;simp only[F0w,A6y,hfd,he,E5,hb,cond_true,D5z hp,h2]
     ·cases h
   ·cases h
  ·cases h
def B5k(sz:Nat):List VV→List (Nat×List VV)→Option (List VV)
 |cs,[]=>some cs
 |cs,(k,vs)::rest=>bif E9p vs.length sz&&F0e 0 vs.length then(match B4p cs (k*sz) vs with
  |some cs'=>B5k sz cs' rest
  |none=>none) else none
theorem B8y{sz:Nat}:∀{ps:List (Nat×List VV)}{cs r:List VV},B5k sz cs ps=some r→(∀p∈ps,C5 D p.2)→C5 D cs→C5 D r∧B1t sz (C3 ρ cs) (ps.map fun p=>(p.1,C3 ρ p.2))=some (C3 ρ r)
 |[],cs,r,h,_,hc=>by cases h;exact⟨hc,rfl⟩
 |(k,vs)::ps,cs,r,h,hl,hc=>by
  simp only[B5k] at h;cases hb:(E9p vs.length sz&&F0e 0 vs.length) with
  |false=>rw[hb] at h;cases h
  |true=>
   rw[hb] at h;simp only[cond_true] at h;split at h
   ·rename_i cs' hp;have h0:=hl (k,vs) (F0g ..)
    have hc':C5 D cs':=by
     rw[(A2v hp).2];refine C6.2 fun v hv=>?_
     rcases E9r.1 hv with hv|hv
     ·rcases E9r.1 hv with hv|hv
      ·exact C6.1 hc v (F1d hv)
      ·exact C6.1 h0 v hv
     ·exact C6.1 hc v (F1g hv)
    obtain⟨h1,h2⟩:=B8y h (fun p hp=>hl p (E9u _ hp)) hc';refine⟨h1,?_⟩;simp only[F0w,B1t,E5,hb,cond_true,D5z hp,h2]
   ·cases h
def C4c(T:F7)(N G:Nat)(f:Tr VV)(t:Nat)(parts:List (Nat×Operand)):Option VV:=
 match D6 T t with
 |some ⟨.struct fs,_,_,zero⟩=>bif fs.toList.all (fun fd=>(D6 T fd.type).isSome) then(match B1q N G f parts with
  |some ps=>(match C2e zero with
   |some z=>(match B5j fs T z ps with
    |some cs=>some (.agg cs)
    |none=>none)
   |none=>none)
  |none=>none) else none
 |some ⟨.array _ e,_,_,zero⟩=>(match D6 T e with
  |some d=>(match B1q N G f parts with
   |some ps=>(match C2e zero with
    |some z=>(match B5k d.size z ps with
     |some cs=>some (.agg cs)
     |none=>none)
    |none=>none)
   |none=>none)
  |none=>none)
 |_=>none
theorem D3n(hT:T.ok P)(hS:G5 ρ D f fr)(hG:Glob Γ ρ D G){t:Nat}{parts:Array (Nat×Operand)}{v:VV}(he:C4c T N G f t parts.toList=some v):
 v.lt D∧PV P N fr ⟨dst,.build t parts,ty,pos,B4,gd⟩ (C2 ρ v):=by
 unfold C4c at he;split at he
 ·rename_i fs _ _ zero ht;cases ha:fs.toList.all (fun fd=>(D6 T fd.type).isSome) with
  |false=>rw[ha] at he;cases he
  |true=>
   rw[ha] at he;simp only[cond_true] at he;split at he
   ·rename_i ps hps;split at he
    ·rename_i z hz;split at he
     ·rename_i cs hcs;cases he;obtain⟨h1,h2⟩:=A7z hS hG hps;obtain⟨h3,h4⟩:=A1j ρ D hz;obtain⟨h5,h6⟩:=B8x (ρ:=ρ) hcs h1 h3;refine⟨by simpa only[VV.lt] using h5,?_⟩;simp only[C2];refine A7g hT ?_;unfold bld;simp only[ht,ha,cond_true,h2];rw[←h4];exact h6
     ·cases he
    ·cases he
   ·cases he
 ·rename_i m e _ _ zero ht;split at he
  ·rename_i d hd;split at he
   ·rename_i ps hps;split at he
    ·rename_i z hz;split at he
     ·rename_i cs hcs;cases he;obtain⟨h1,h2⟩:=A7z hS hG hps;obtain⟨h3,h4⟩:=A1j ρ D hz;obtain⟨h5,h6⟩:=B8y (ρ:=ρ) hcs h1 h3;refine⟨by simpa only[VV.lt] using h5,?_⟩;simp only[C2];obtain⟨d1,d2,d3,d4⟩:=d;refine A3g hT ht hd h2 ?_;rw[←h4];exact h6
     ·cases he
    ·cases he
   ·cases he
  ·cases he
 ·cases he
end
end
noncomputable section
open Go Go.Eng
section
variable{Γ:F7→I4→Code→Prop}{ρ:Loc}{D:J8}{n N G:Nat}{f:Tr VV}{fr:Fr}{P:Program}{T:F7}{dst:Option Nat}{ty:TypeId}{pos:String}{B4:Array Edge}{gd:Option (Nat×Bool)}
def conv(T:F7)(s d:Nat)(a:VV):Option VV:=
 match D6 T s,D6 T d with
 |some _,some e=>(match e.desc,a with
  | .int k,.int _ m=>some (.int k (k.wrap m))
  |_,_=>none)
 |_,_=>none
theorem conv_ok(hT:T.ok P){s d:Nat}{x:Operand}{a v:VV}(hx:ev N fr x=C2 ρ a)(h:conv T s d a=some v):v.lt D∧PV P N fr ⟨dst,.convert s d x,ty,pos,B4,gd⟩ (C2 ρ v):=by
 unfold conv at h;split at h
 ·rename_i es e hs hd;split at h
  ·rename_i k kk m hk;cases h;have u1:=(B6 hT hs).und;have u2:=(B6 hT hd).und;rw[hk] at u2;simp only[C2] at hx⊢;refine⟨by simp only[VV.lt],?_⟩;unfold PV;intro w;simp only[execOp,hx];cases hes:es.desc<;>rw[hes] at u1<;>simp[convert,run_underlying u1,run_underlying u2,Conv.intToInt]
  ·cases h
 ·cases h
end
end
noncomputable section
open Go Go.Eng
section
variable{Γ:F7→I4→Code→Prop}{ρ:Loc}{D:J8}{n N G:Nat}{f:Tr VV}{fr:Fr}{P:Program}{T:F7}{dst:Option Nat}{ty:TypeId}{pos:String}{B4:Array Edge}{gd:Option (Nat×Bool)}
def bnd:VV→Option Nat
 | .int _ (.ofNat k)=>some k
 |_=>none
theorem B5a(s:List Nat)(l h:Nat):(bytesOf s).extract l h=bytesOf ((s.take h).drop l):=by
 apply ByteArray.ext;apply F1w;simp[bytesOf,List.drop_take]
def B5u(b o c l sz:Nat):Addr:=⟨b,if c=l then o else o+l*sz,none⟩
theorem D2x(hT:T.ok P){t sz b o len c l h:Nat}(hs:A3v T t=some sz)(lo hi:Option Value)(hlo:(lo=none∧l=0)∨∃k,lo=some (.int k (l:Int)))(hhi:(hi=none∧h=len)∨∃k,hi=some (.int k (h:Int)))(h1:l≤h)(h2:h≤c)(w:World):
 (F1a t (.slice (some ⟨b,o,none⟩) len c) lo hi none).run P w=.ok (.slice (some (B5u b o c l sz)) (h-l) (c-l)) w:=by
 obtain⟨e,i,z,x',g1,g2,g3,g4,_⟩:=A0h hT hs;have a1:(0:Int)≤(l:Int)∧(l:Int)≤(h:Int):=by omega
 have a2:(0:Int)≤(h:Int)∧(h:Int)≤(c:Int):=by omega
 have a3:(0:Int)≤(h:Int):=by omega
 have a4:(0:Int)≤(l:Int):=by omega
 unfold B5u;rcases hlo with⟨rfl,hl0⟩|⟨k1,rfl⟩<;>rcases hhi with⟨rfl,hh0⟩|⟨k2,rfl⟩
 all_goals
  by_cases hc:c=l
  ·simp_all [F1a,F1v,F0v,F1c,asIntOf,run_underlying g1,sizeOf,E0 g2]
  ·simp_all [F1a,F1v,F0v,F1c,asIntOf,run_underlying g1,sizeOf,E0 g2,E8]
theorem B2r(hT:T.ok P){t sz b o len c l h:Nat}{x:Operand}{lo hi:Option Operand}(hx:ev N fr x=.slice (some ⟨b,o,none⟩) len c)(hs:A3v T t=some sz)(hlo:(lo=none∧l=0)∨∃y k,lo=some y∧ev N fr y=.int k (l:Int))(hhi:(hi=none∧h=len)∨∃y k,hi=some y∧ev N fr y=.int k (h:Int))(h1:l≤h)(h2:h≤c):
 PV P N fr ⟨dst,.slice t x lo hi none,ty,pos,B4,gd⟩ (.slice (some (B5u b o c l sz)) (h-l) (c-l)):=by
 unfold PV;intro w
 have e1:(lo.map (ev N fr)=none∧l=0)∨∃k,lo.map (ev N fr)=some (.int k (l:Int)):=by
  rcases hlo with⟨rfl,h⟩|⟨y,k,rfl,h⟩
  ·exact .inl ⟨rfl,h⟩
  ·exact .inr ⟨k,by simp[h]⟩
 have e2:(hi.map (ev N fr)=none∧h=len)∨∃k,hi.map (ev N fr)=some (.int k (h:Int)):=by
  rcases hhi with⟨rfl,h⟩|⟨y,k,rfl,h⟩
  ·exact .inl ⟨rfl,h⟩
  ·exact .inr ⟨k,by simp[h]⟩
 have:=D2x hT hs _ _ e1 e2 h1 h2 w (b:=b) (o:=o)
 simp only[execOp,hx,Option.map_none,Sem.run_bind,this,Result.andThen,Sem.run_pure]
def bdV(N G:Nat)(f:Tr VV)(d:Nat):Option Operand→Option Nat
 |none=>some d
 |some y=>(match evO N G f y with
  |some v=>bnd v
  |none=>none)
theorem W9(hS:G5 ρ D f fr)(hG:Glob Γ ρ D G){d l:Nat}{lo:Option Operand}(h:bdV N G f d lo=some l):(lo=none∧l=d)∨∃y k,lo=some y∧ev N fr y=.int k (l:Int):=by
 cases lo with
 |none=>cases h;exact .inl ⟨rfl,rfl⟩
 |some y=>
  simp only[bdV] at h;split at h
  ·rename_i v hv;have h2:=(D5 hS hG hv).2;unfold bnd at h;split at h
   ·rename_i k m;cases h;simp only[C2] at h2;exact .inr ⟨y,k,rfl,h2⟩
   ·cases h
  ·cases h
def B7j(T:F7)(N G:Nat)(f:Tr VV)(t:Nat)(x:Operand)(lo hi:Option Operand):Option VV:=
 match evO N G f x with
 |some (.sl k o len (.fix c))=>(match A3v T t with
  |some sz=>(match bdV N G f 0 lo with
   |some l=>(match bdV N G f len hi with
    |some h=>bif F0n l h&&F0n h c then some (.sl k (bif E9p c l then o else o+l*sz) (h-l) (.fix (c-l))) else none
    |none=>none)
   |none=>none)
  |none=>none)
 |_=>none
theorem D0r(hT:T.ok P)(hS:G5 ρ D f fr)(hG:Glob Γ ρ D G){t:Nat}{x:Operand}{lo hi:Option Operand}{v:VV}(hv:B7j T N G f t x lo hi=some v):v.lt D∧PV P N fr ⟨dst,.slice t x lo hi none,ty,pos,B4,gd⟩ (C2 ρ v):=by
 unfold B7j at hv;split at hv
 ·rename_i k o len c hx;split at hv
  ·rename_i sz hs;split at hv
   ·rename_i l hl;split at hv
    ·rename_i h hh;cases hb:(F0n l h&&F0n h c) with
     |false=>rw[hb] at hv;cases hv
     |true=>
      rw[hb] at hv;cases hv;simp only[E9j] at hb;obtain⟨h1,h2⟩:=D5 hS hG hx;simp only[C2,Loc.capOf] at h2;refine⟨by simpa only[VV.lt] using h1,?_⟩
      have:=B2r (dst:=dst) (ty:=ty) (pos:=pos) (B4:=B4) (gd:=gd) hT h2 hs (W9 hS hG hl) (W9 hS hG hh) (E9w hb.1) (E9w hb.2)
      simp only[C2,Loc.capOf]
      have e:(bif E9p c l then o else o+l*sz)=if c=l then o else o+l*sz:=by
       by_cases hc:c=l
       ·subst hc;simp
       ·rw[if_neg hc];cases hbb:E9p c l with
        |true=>exact absurd (E9m hbb) hc
        |false=>rfl
      rw[e];exact this
    ·cases hv
   ·cases hv
  ·cases hv
 ·cases hv
end
end
noncomputable section
open Go Go.Eng
section
variable{Γ:F7→I4→Code→Prop}{ρ:Loc}{D:J8}{n N G:Nat}{f:Tr VV}{fr:Fr}{P:Program}{T:F7}{dst:Option Nat}{ty:TypeId}{pos:String}{B4:Array Edge}{gd:Option (Nat×Bool)}
theorem D2w(hT:T.ok P){t l h:Nat}{s:ByteArray}(hs:R5 T P1 t=true)(lo hi:Option Value)(hlo:(lo=none∧l=0)∨∃k,lo=some (.int k (l:Int)))(hhi:(hi=none∧h=s.size)∨∃k,hi=some (.int k (h:Int)))(h1:l≤h)(h2:h≤s.size)(w:World):
 (F1a t (.string s) lo hi none).run P w=.ok (.string (s.extract l h)) w:=by
 have g1:=B5d hT hs;have a1:(0:Int)≤(l:Int)∧(l:Int)≤(h:Int):=by omega
 have a2:(0:Int)≤(h:Int)∧(h:Int)≤(s.size:Int):=by omega
 have a3:(0:Int)≤(h:Int):=by omega
 have a4:(0:Int)≤(l:Int):=by omega
 rcases hlo with⟨rfl,hl0⟩|⟨k1,rfl⟩<;>rcases hhi with⟨rfl,hh0⟩|⟨k2,rfl⟩
 all_goals simp_all [F1a,F1v,F0v,F1c,asIntOf,run_underlying g1]
theorem E0c(hT:T.ok P){t l h:Nat}{s:ByteArray}{x:Operand}{lo hi:Option Operand}(hx:ev N fr x=.string s)(hs:R5 T P1 t=true)(hlo:(lo=none∧l=0)∨∃y k,lo=some y∧ev N fr y=.int k (l:Int))(hhi:(hi=none∧h=s.size)∨∃y k,hi=some y∧ev N fr y=.int k (h:Int))(h1:l≤h)(h2:h≤s.size):
 PV P N fr ⟨dst,.slice t x lo hi none,ty,pos,B4,gd⟩ (.string (s.extract l h)):=by
 unfold PV;intro w
 have e1:(lo.map (ev N fr)=none∧l=0)∨∃k,lo.map (ev N fr)=some (.int k (l:Int)):=by
  rcases hlo with⟨rfl,h⟩|⟨y,k,rfl,h⟩
  ·exact .inl ⟨rfl,h⟩
  ·exact .inr ⟨k,by simp[h]⟩
 have e2:(hi.map (ev N fr)=none∧h=s.size)∨∃k,hi.map (ev N fr)=some (.int k (h:Int)):=by
  rcases hhi with⟨rfl,h⟩|⟨y,k,rfl,h⟩
  ·exact .inl ⟨rfl,h⟩
  ·exact .inr ⟨k,by simp[h]⟩
 have:=D2w hT hs _ _ e1 e2 h1 h2 w
 simp only[execOp,hx,Option.map_none,Sem.run_bind,this,Result.andThen,Sem.run_pure]
def B7f(T:F7)(N G:Nat)(f:Tr VV)(t:Nat)(x:Operand)(lo hi:Option Operand):Option VV:=
 match evO N G f x with
 |some (.str s)=>bif R5 T P1 t then(match bdV N G f 0 lo with
  |some l=>(match bdV N G f s.length hi with
   |some h=>bif F0n l h&&F0n h s.length then some (.str ((s.take h).drop l)) else none
   |none=>none)
  |none=>none) else none
 |_=>none
theorem D0n(hT:T.ok P)(hS:G5 ρ D f fr)(hG:Glob Γ ρ D G){t:Nat}{x:Operand}{lo hi:Option Operand}{v:VV}(hv:B7f T N G f t x lo hi=some v):v.lt D∧PV P N fr ⟨dst,.slice t x lo hi none,ty,pos,B4,gd⟩ (C2 ρ v):=by
 unfold B7f at hv;split at hv
 ·rename_i s hx;cases ht:R5 T P1 t with
  |false=>rw[ht] at hv;cases hv
  |true=>
   rw[ht] at hv;simp only[cond_true] at hv;split at hv
   ·rename_i l hl;split at hv
    ·rename_i h hh;cases hb:(F0n l h&&F0n h s.length) with
     |false=>rw[hb] at hv;cases hv
     |true=>
      rw[hb] at hv;cases hv;simp only[E9j] at hb;have h2:=(D5 hS hG hx).2;simp only[C2] at h2;refine⟨by simp only[VV.lt],?_⟩;have hsz:=U7 s
      have:=E0c (dst:=dst) (ty:=ty) (pos:=pos) (B4:=B4) (gd:=gd) hT h2 ht (W9 hS hG hl) (by rw[hsz];exact W9 hS hG hh) (E9w hb.1) (by rw[hsz];exact E9w hb.2)
      simp only[C2,←B5a];exact this
    ·cases hv
   ·cases hv
 ·cases hv
end
end
noncomputable section
open Go Go.Eng
section
variable{Γ:F7→I4→Code→Prop}{ρ:Loc}{D:J8}{n N G:Nat}{f:Tr VV}{fr:Fr}{P:Program}{T:F7}{dst:Option Nat}{ty:TypeId}{pos:String}{B4:Array Edge}{gd:Option (Nat×Bool)}
def fldV(T:F7)(s fi:Nat)(a:VV):Option VV:=
 match a with
 | .agg l=>(match D6 T s with
   |some ⟨.struct fs,_,_,_⟩=>(match fs[fi]? with
    |some fd=>E2w T fd.type l fd.offset
    |none=>none)
   |_=>none)
 |_=>none
theorem B8m{α:Type}:∀{k:Nat}{l:List α},k≤l.length→A9r k l=some (l.take k)
 |0,_,_=>rfl
 |k+1,[],h=>by simp at h
 |k+1,a::l,h=>by
  simp only[A9r,B8m (k:=k) (l:=l) (by simpa using h),List.take_succ_cons]
theorem fldV_ok(hT:T.ok P){s fi:Nat}{x:Operand}{a v:VV}(hx:ev N fr x=C2 ρ a)(ha:a.lt D)(h:fldV T s fi a=some v):v.lt D∧PV P N fr ⟨dst,.field s x fi,ty,pos,B4,gd⟩ (C2 ρ v):=by
 unfold fldV at h;split at h
 ·rename_i l;simp only[VV.lt] at ha;simp only[C2] at hx;split at h
  ·rename_i fs _ _ _ hs;split at h
   ·rename_i fd hfd;unfold E2w at h;split at h
    ·rename_i e he;cases hg:K4 e.desc with
     |true=>
      rw[hg] at h;simp only[cond_true] at h;split at h
      ·rename_i r hr;cases h;obtain⟨h1,h2⟩:=A2e hr;rw[A2f] at h1
       have hle:e.size≤(l.drop fd.offset).length:=by
        have hq:=congrArg List.length h1;rw[List.length_take,h2] at hq;omega
       refine⟨?_,B8f hT hx ?_⟩
       ·simp only[VV.lt];exact C6.2 fun v hv=>C6.1 ha v (F1g (F1d (by rw[←h1];exact hv)))
       ·unfold E2x;simp only[hs,hfd,he,hg,cond_true];rw[B8m (by rw[F2,←List.map_drop,F1t];exact hle)];simp only[C2,h1,F2,List.map_take,List.map_drop]
      ·cases h
     |false=>
      rw[hg] at h;simp only[cond_false] at h;refine⟨B5f ha h,B8f hT hx ?_⟩;unfold E2x;simp only[hs,hfd,he,hg,cond_false,C8e,h,F1q,A2c]
    ·cases h
   ·cases h
  ·cases h
 ·cases h
end
end
noncomputable section
open Go Go.Eng
def eqK:VV→VV→Option Bool
 | .int k a,.int k' b=>bif decide (k=k') then some (decide (a=b)) else none
 | .str s,.str t=>some (eqS s t)
 | .bool a,.bool b=>some (a==b)
 |_,_=>none
abbrev VEs:=List (VV×VV×Nat)
def A8n(k:VV):VEs→Nat→Option (Option (Nat×VV))
 |[],_=>some none
 |e::es,i=>(match eqK k e.1 with
  |some true=>some (some (i,e.2.1))
  |some false=>A8n k es (i+1)
  |none=>none)
def W7:TypeDesc→VV→Bool
 | .int _,.int _ _=>true
 | .string,.str _=>true
 | .bool,.bool _=>true
 |_,_=>false
def N5(ρ:Loc)(es:VEs):List MapEntry:=es.map fun e=>⟨C2 ρ e.1,C2 ρ e.2.1,e.2.2⟩
theorem B8r{ρ:Loc}{d:TypeDesc}{k e:VV}{b:Bool}(hk:W7 d k=true)(h:eqK k e=some b):Instr.sameNow d (C2 ρ k) (C2 ρ e)=some b:=by
 unfold eqK at h;split at h
 ·rename_i kk a kk' c;cases hd:decide (kk=kk') with
  |false=>rw[hd] at h;cases h
  |true=>
   rw[hd] at h;cases h
   have:kk=kk':=by simpa using hd
   subst this;cases d<;>cases hk;simp only[C2,Instr.sameNow,if_true,Option.some.injEq];rfl
 ·cases h;cases d<;>cases hk;simp only[C2,Instr.sameNow,Option.some.injEq,B6j,A7v]
 ·cases h;cases d<;>cases hk;simp only[C2,Instr.sameNow]
 ·cases h
theorem C9c{ρ:Loc}{d:TypeDesc}{k:VV}(hk:W7 d k=true):∀{es:VEs}{i:Nat}{r:Option (Nat×VV)},A8n k es i=some r→Instr.findNow d (C2 ρ k) (N5 ρ es) i=some (r.map fun x=>(x.1,C2 ρ x.2))
 |[],i,r,h=>by cases h;rfl
 |e::es,i,r,h=>by
  simp only[A8n] at h;split at h
  ·rename_i he;cases h;simp only[N5,F0w,Instr.findNow,B8r hk he,F1q]
  ·rename_i he
   have:=C9c (ρ:=ρ) hk h
   simp only[N5,F0w,Instr.findNow,B8r hk he] at this⊢;exact this
  ·cases h
section
variable{Γ:F7→I4→Code→Prop}{ρ:Loc}{D:J8}{n N G:Nat}{f:Tr VV}{h:VH}{fr:Fr}{P:Program}{T:F7}{i:Imm}{L:SH}{dst:Option Nat}{ty:TypeId}{pos:String}{B4:Array Edge}{gd:Option (Nat×Bool)}
theorem B2d(hT:T.ok P){t:Nat}{e:TyE}{y:Value}(ht:D6 T t=some e)(hy:zOf e=some y)(w:World):(zeroValue t).run P w=.ok y w:=by
 obtain⟨i,z,hi,_⟩:=(B6 hT ht).info
 have:=(A6z hT ht).2.1 i y hi hy
 simp[zeroValue,E0 hi,this]
theorem A3p{w:World}{kt:TypeId}{d:TypeDesc}{k:VV}(hd:P.underlying kt=some d)(hk:W7 d k=true)(e:Bool)(m:Nat):(Instr.checkKey e (m+1) kt (C2 ρ k)).run P w=.ok () w:=by
 cases d<;>cases k<;>cases hk<;>simp[Instr.checkKey,run_underlying hd,C2]
theorem A5m{w:World}{kt:TypeId}{d:TypeDesc}{k:VV}(hd:P.underlying kt=some d)(hk:W7 d k=true){es:VEs}{r:Option (Nat×VV)}(h:A8n k es 0=some r):(Instr.findKey kt (C2 ρ k) (N5 ρ es)).run P w=.ok (r.map fun x=>(x.1,C2 ρ x.2)) w:=by
 simp[Instr.findKey,run_underlying hd,C9c (ρ:=ρ) hk h]
def E2z(h:VH):VV→Option VEs
 | .nilm=>some []
 | .map b=>(match get b h with
   |some (_,.map es _)=>some es
   |_=>none)
 |_=>none
def B3h(e:TyE):Option VV:=bif K4 e.desc then(match C2e e.zero with|some l=>some (.agg l)|none=>none) else match e.zero with
 |[v]=>ofC v
 |_=>none
theorem B6n{e:TyE}{v:VV}(h:B3h e=some v)(ρ:Loc)(D:J8):v.lt D∧zOf e=some (C2 ρ v):=by
 unfold B3h at h;unfold zOf;cases ha:K4 e.desc with
 |true=>
  rw[ha] at h;simp only[cond_true] at h⊢;split at h
  ·rename_i l hl;cases h;obtain⟨h1,h2⟩:=A1j ρ D hl;exact⟨by simp only[VV.lt];exact h1,by simp only[C2,h2]⟩
  ·cases h
 |false=>
  rw[ha] at h;simp only[cond_false] at h⊢;split at h
  ·rename_i v' hv;obtain⟨h1,h2⟩:=C2t h ρ D;exact⟨h1,by simp only[hv,h2]⟩
  ·cases h
def B7p(T:F7)(N G:Nat)(f:Tr VV)(h:VH)(t:Nat)(x y:Operand)(ok:Bool):Option VV:=
 match D6 T t with
 |some ⟨.map kt et,_,_,_⟩=>(match D6 T kt with
  |some dk=>(match D6 T et with
   |some de=>(match evO N G f x with
    |some m=>(match evO N G f y with
     |some k=>bif W7 dk.desc k then(match E2z h m with
      |some es=>(match A8n k es 0 with
       |some (some (_,v))=>some (bif ok then .tup [v,.bool true] else v)
       |some none=>(match B3h de with
        |some v=>some (bif ok then .tup [v,.bool false] else v)
        |none=>none)
       |none=>none)
      |none=>none) else none
     |none=>none)
    |none=>none)
   |none=>none)
  |none=>none)
 |_=>none
theorem C1h{k:VV}:∀{es:VEs}{i j:Nat}{v:VV},A8n k es i=some (some (j,v))→∃e∈es,e.2.1=v
 |[],i,j,v,h=>by cases h
 |e::es,i,j,v,h=>by
  simp only[A8n] at h;split at h
  ·cases h;exact⟨e,by simp,rfl⟩
  ·obtain⟨e',h1,h2⟩:=C1h h;exact⟨e',E9u _ h1,h2⟩
  ·cases h
theorem C4e(hL:X7 ρ D h i L){m:VV}{es:VEs}(he:E2z h m=some es)(_:m.lt D):(∀e∈es,e.1.lt D∧e.2.1.lt D)∧((C2 ρ m=.map none∧es=[])∨∃b c,C2 ρ m=.map (some b)∧Has i L b (.map (N5 ρ es).toArray c)):=by
 unfold E2z at he;split at he
 ·cases he;exact⟨fun e he=>(by cases he),.inl ⟨by simp only[C2],rfl⟩⟩
 ·rename_i b _;split at he
  ·rename_i fz es' c hb;cases he;obtain⟨_,h2,o,h3,h4⟩:=hL.has hb;refine⟨h2,.inr ⟨ρ.at_ b,c,by simp only[C2],?_⟩⟩
   have:o=.map (N5 ρ es).toArray c:=h3
   rw[←this];exact h4
  ·cases he
 ·cases he
theorem D0w(hT:T.ok P)(hS:G5 ρ D f fr)(hG:Glob Γ ρ D G)(hL:X7 ρ D h i L){t:Nat}{x y:Operand}{ok:Bool}{v:VV}(hv:B7p T N G f h t x y ok=some v):v.lt D∧LV P N fr i L ⟨dst,.lookup t x y ok,ty,pos,B4,gd⟩ (C2 ρ v):=by
 unfold B7p at hv;split at hv
 ·rename_i kt et _ _ _ ht;split at hv
  ·rename_i dk hdk;split at hv
   ·rename_i de hde;split at hv
    ·rename_i m hm;split at hv
     ·rename_i k hk;cases hkd:W7 dk.desc k with
      |false=>rw[hkd] at hv;cases hv
      |true=>
       rw[hkd] at hv;simp only[cond_true] at hv;split at hv
       ·rename_i es hes;obtain⟨m1,m2⟩:=D5 hS hG hm;obtain⟨k1,k2⟩:=D5 hS hG hk;have u1:=(B6 hT ht).und;have u2:=(B6 hT hdk).und;simp only at u1;obtain⟨e1,e2⟩:=C4e hL hes m1
        have main:∀(r:Option (Nat×VV))(v0:VV)(b:Bool),A8n k es 0=some r→(∀q,r=some q→v0=q.2∧b=true)→(r=none→b=false∧∀w,(zeroValue et).run P w=.ok (C2 ρ v0) w)→v0.lt D→
         v=(bif ok then .tup [v0,.bool b] else v0)→v.lt D∧LV P N fr i L ⟨dst,.lookup t x y ok,ty,pos,B4,gd⟩ (C2 ρ v):=by
         intro r v0 b hr hr1 hr2 hlt hve;refine⟨?_,?_⟩
         ·rw[hve];cases ok
          ·exact hlt
          ·simp only[cond_true,VV.lt,C5];exact⟨hlt,trivial,trivial⟩
         ·have hfin:C2 ρ v=if ok=true then .tuple #[C2 ρ v0,.bool b] else C2 ρ v0:=by
           rw[hve];cases ok
           ·rfl
           ·simp only[cond_true,C2,C3,if_true]
          rw[hfin];unfold LV;intro w hw;have g3:=A5m (ρ:=ρ) (w:=w) u2 hkd hr;have g4:∀e,(Instr.checkKey e 10000 kt (C2 ρ k)).run P w=.ok () w:=fun e=>A3p u2 hkd e 9999
          rcases e2 with⟨e2,e3⟩|⟨bb,c,e2,e3⟩
          ·subst e3;rw[e2] at m2;simp only[execOp,m2,k2,Instr.lookup];have g3':(Instr.findKey kt (C2 ρ k) []).run P w=.ok (r.map fun x=>(x.1,C2 ρ x.2)) w:=g3;cases r with
           |none=>
            obtain⟨rfl,hz⟩:=hr2 rfl;simp[run_underlying u1,g4,g3',hz w]
           |some q=>
            obtain⟨rfl,rfl⟩:=hr1 q rfl;simp[run_underlying u1,g4,g3']
          ·rw[e2] at m2;have g1:(getObj bb).run P w=.ok (.map (N5 ρ es).toArray c) w:=M9 (e3.block hw);simp only[execOp,m2,k2,Instr.lookup];cases r with
           |none=>
            obtain⟨rfl,hz⟩:=hr2 rfl;simp[run_underlying u1,g1,g4,g3,hz w]
           |some q=>
            obtain⟨rfl,rfl⟩:=hr1 q rfl;simp[run_underlying u1,g1,g4,g3]
        split at hv
        ·rename_i j v0 hf;cases hv;obtain⟨e,he,hev⟩:=C1h hf;exact main _ v0 true hf (fun q hq=>by cases hq;exact⟨rfl,rfl⟩) (fun hq=>by cases hq) (by rw[←hev];exact(e1 e he).2) rfl
        ·rename_i hf;split at hv
         ·rename_i v0 hz;cases hv;obtain⟨z1,z2⟩:=B6n hz ρ D;exact main _ v0 false hf (fun q hq=>by cases hq) (fun _=>⟨rfl,B2d hT hde z2⟩) z1 rfl
         ·cases hv
        ·cases hv
       ·cases hv
     ·cases hv
    ·cases hv
   ·cases hv
  ·cases hv
 ·cases hv
def B4q(k v:VV):VEs→Nat→VEs
 |e::es,0=>(k,v,e.2.2)::es
 |e::es,j+1=>e::B4q k v es j
 |[],_=>[]
def D4y:VV→VV→Bool
 | .int k a,.int k' b=>decide (k=k')&&decide (a=b)
 | .str s,.str t=>eqS s t
 | .bool a,.bool b=>a==b
 |_,_=>false
def D5d(T:F7)(N G:Nat)(f:Tr VV)(t:Nat)(x y z:Operand)(h:VH)(n:Nat):Option Eff:=
 match D6 T t with
 |some ⟨.map kt _,_,_,_⟩=>(match D6 T kt with
  |some dk=>(match evO N G f x with
   |some (.map b)=>(match evO N G f y with
    |some k=>(match evO N G f z with
     |some v=>bif W7 dk.desc k then(match get b h with
      |some (false,.map es c)=>(match A8n k es 0 with
       |some (some (j,_))=>(match nth es j with
        |some e=>bif D4y e.1 k then some ⟨none,set b (false,.map (B4q k v es j) c) h,n⟩ else none
        |none=>none)
       |some none=>some ⟨none,set b (false,.map (es++[(k,v,c)]) (c+1)) h,n⟩
       |none=>none)
      |_=>none) else none
     |none=>none)
    |none=>none)
   |_=>none)
  |none=>none)
 |_=>none
theorem E4y{ρ:Loc}{a b:VV}(h:D4y a b=true)(m:Nat):Instr.sameBits (m+1) (C2 ρ a) (C2 ρ b)=true:=by
 unfold D4y at h;split at h
 ·simp only[E9j,decide_eq_true_eq] at h;obtain⟨rfl,rfl⟩:=h;simp[C2,Instr.sameBits]
 ·rw[B6j] at h;simp only[decide_eq_true_eq] at h;simp only[C2,Instr.sameBits,A7v,h,decide_true]
 ·simp only[C2,Instr.sameBits];exact h
 ·cases h
theorem putK_ok{ρ:Loc}{k v:VV}:∀{es:VEs}{j:Nat},(N5 ρ es).toArray.modify j (fun e=>{e with key:=C2 ρ k,val:=C2 ρ v})=(N5 ρ (B4q k v es j)).toArray:=by
 intro es j;apply Array.ext_getElem?;intro m;rw[Array.getElem?_modify]
 have:∀(es:VEs)(j m:Nat),(N5 ρ (B4q k v es j))[m]?=if j=m then((N5 ρ es)[m]?).map (fun e=>({e with key:=C2 ρ k,val:=C2 ρ v}:MapEntry)) else(N5 ρ es)[m]?:=by
  intro es;induction es with
  |nil=>intro j m;simp[B4q,N5]
  |cons e es ih=>
   intro j m;cases j with
   |zero=>cases m<;>simp[B4q,N5]
   |succ j=>
    cases m with
    |zero=>simp[B4q,N5]
    |succ m=>
     have:=ih j m
     simp only[N5,B4q,F0w,List.getElem?_cons_succ,Nat.succ.injEq] at this⊢;simpa using this
 simp only[List.getElem?_toArray];rw[this es j m]
theorem D6a{D:J8}{k v:VV}(hk:k.lt D)(hv:v.lt D):∀{es:VEs}{j:Nat},(∀e∈es,e.1.lt D∧e.2.1.lt D)→∀e∈B4q k v es j,e.1.lt D∧e.2.1.lt D
 |[],_,_,e,he=>by cases he
 |a::es,0,h,e,he=>by
  simp only[B4q,F0b] at he;rcases he with rfl|he
  ·exact⟨hk,hv⟩
  ·exact h e (E9u _ he)
 |a::es,j+1,h,e,he=>by
  simp only[B4q,F0b] at he;rcases he with rfl|he
  ·exact h e (by simp)
  ·exact D6a hk hv (fun e he=>h e (E9u _ he)) e he
theorem C9f(hT:T.ok P)(hS:G5 ρ D f fr)(hG:Glob Γ ρ D G)(hL:X7 ρ D h i L){t:Nat}{x y z:Operand}{e:Eff}(he:D5d T N G f t x y z h n=some e):
 P3 P N ⟨dst,.mapUpdate t x y z,ty,pos,B4,gd⟩ fr i L (G3 ρ D n e)∧P3 P N ⟨dst,.insert t x y z,ty,pos,B4,gd⟩ fr i L (G3 ρ D n e):=by
 unfold D5d at he;split at he
 ·rename_i kt et _ _ _ ht;split at he
  ·rename_i dk hdk;split at he
   ·rename_i b hm;split at he
    ·rename_i k hk;split at he
     ·rename_i v hv;cases hkd:W7 dk.desc k with
      |false=>rw[hkd] at he;cases he
      |true=>
       rw[hkd] at he;simp only[cond_true] at he;split at he
       ·rename_i es c hb;obtain⟨_,m2⟩:=D5 hS hG hm;obtain⟨k1,k2⟩:=D5 hS hG hk;obtain⟨v1,v2⟩:=D5 hS hG hv;simp only[C2] at m2;have u1:=(B6 hT ht).und;have u2:=(B6 hT hdk).und;simp only at u1;obtain⟨ob,j,ho,hj⟩:=X7.own hL hb;have ho':ob=.map (N5 ρ es).toArray c:=ho;subst ho';have hlt:=(hL.ok _ _ _ hb).2.1
        have main:∀(es':VEs)(c':Nat),(∀e∈es',e.1.lt D∧e.2.1.lt D)→(∀w,St i L w→(Instr.mapUpdate t (.map (some (ρ.at_ b))) (C2 ρ k) (C2 ρ v)).run P w=.ok () (ChangeMaps.setBlock w (ρ.at_ b) (.map (N5 ρ es').toArray c')))→
         P3 P N ⟨dst,.mapUpdate t x y z,ty,pos,B4,gd⟩ fr i L (G3 ρ D n ⟨none,set b (false,.map es' c') h,n⟩)∧P3 P N ⟨dst,.insert t x y z,ty,pos,B4,gd⟩ fr i L (G3 ρ D n ⟨none,set b (false,.map es' c') h,n⟩):=by
         intro es' c' hes hrun
         have hpost:G3 ρ D n ⟨none,set b (false,.map es' c') h,n⟩ undef i (L.set j (ρ.at_ b,.map (N5 ρ es').toArray c')):=
          ⟨ρ,Ext.refl D ρ,E9q n,(X7.put hL (vo':=.map es' c') hb hj hes rfl).mono (D.le_upto n n),fun v hv=>by cases hv⟩
         refine⟨A8g fun w hw=>⟨_,i,_,?_,Imm.le.refl i,hw.setBlock _ hj,hpost⟩,A8g fun w hw=>⟨_,i,_,?_,Imm.le.refl i,hw.setBlock _ hj,hpost⟩⟩
         all_goals
          simp only[execOp,m2,k2,v2];simp[hrun w hw]
        have g4:∀(w:World)(e:Bool),(Instr.checkKey e 10000 kt (C2 ρ k)).run P w=.ok () w:=fun w e=>A3p u2 hkd e 9999
        split at he
        ·rename_i jj v0 hf;split at he
         ·rename_i e0 he0;cases hsk:D4y e0.1 k with
          |false=>rw[hsk] at he;cases he
          |true=>
           rw[hsk] at he;cases he;refine main _ _ (D6a k1 v1 hlt) fun w hw=>?_
           have h7:=hw.own _ (E9g hj);have g1:(getObj (ρ.at_ b)).run P w=.ok (.map (N5 ρ es).toArray c) w:=M9 h7;have g2:=A1t (P:=P) (.map (N5 ρ (B4q k v es jj)).toArray c) h7;have g3:=A5m (ρ:=ρ) (w:=w) u2 hkd hf;rw[W5] at he0;have g5:(N5 ρ es)[jj]?=some ⟨C2 ρ e0.1,C2 ρ e0.2.1,e0.2.2⟩:=by simp[N5,he0]
           have g6:(Instr.keyThatStays (C2 ρ e0.1) (C2 ρ k)).run P w=.ok (C2 ρ k) w:=by
            simp[Instr.keyThatStays,E4y hsk 9999]
           simp only[Instr.mapUpdate];have g7:=putK_ok (ρ:=ρ) (k:=k) (v:=v) (es:=es) (j:=jj);simp only[List.modify_toArray] at g7;simp[run_underlying u1,g1,g4,g3,g5,g6,g7,g2];rfl
         ·cases he
        ·rename_i hf;cases he;refine main _ _ (fun e he=>?_) fun w hw=>?_
         ·rcases E9r.1 he with he|he
          ·exact hlt e he
          ·rw[List.mem_singleton] at he;subst he;exact⟨k1,v1⟩
         ·have h7:=hw.own _ (E9g hj);have g1:(getObj (ρ.at_ b)).run P w=.ok (.map (N5 ρ es).toArray c) w:=M9 h7;have g2:=A1t (P:=P) (.map (N5 ρ (es++[(k,v,c)])).toArray (c+1)) h7;have g3:=A5m (ρ:=ρ) (w:=w) u2 hkd hf;have g5:(N5 ρ es).toArray.push ⟨C2 ρ k,C2 ρ v,c⟩=(N5 ρ (es++[(k,v,c)])).toArray:=by simp[N5]
          simp only[Instr.mapUpdate];simp only[List.push_toArray] at g5;simp[run_underlying u1,g1,g4,g3,g5,g2];rfl
        ·cases he
       ·cases he
     ·cases he
    ·cases he
   ·cases he
  ·cases he
 ·cases he
end
end
noncomputable section
open Go Go.Eng
theorem A8r(b:Nat):∀(vs:List Value)(o:Nat)(w:World),(w.setCells b o vs).os=w.os∧(w.setCells b o vs).tape=w.tape∧(w.setCells b o vs).output=w.output
 |[],_,_=>⟨rfl,rfl,rfl⟩
 |v::r,o,w=>by
  obtain⟨h1,h2,h3⟩:=A8r b r (o+1) (w.setCell ⟨b,o,none⟩ v);exact⟨h1,h2,h3⟩
theorem A8v(b:Nat)(e:TypeId)(fz:Nat×Nat):∀(vs cs:List Value)(o:Nat)(w:World),w.heap[b]?=some (.cells cs.toArray e fz)→o+vs.length≤cs.length→
 ∀c,(w.setCells b o vs).heap[c]?=if c=b then some (.cells (cs.take o++vs++cs.drop (o+vs.length)).toArray e fz) else w.heap[c]?
 |[],cs,o,w,h,hl,c=>by
  simp only[World.setCells,List.length_nil,Nat.add_zero,List.append_nil,List.take_append_drop];by_cases hc:c=b
  ·subst hc;rw[if_pos rfl,h]
  ·rw[if_neg hc]
 |v::r,cs,o,w,h,hl,c=>by
  simp only[F1h] at hl;have hlt:o<cs.length:=by omega
  have h1:(w.setCell ⟨b,o,none⟩ v).heap[b]?=some (.cells (cs.set o v).toArray e fz):=by
   simp[World.setCell,Array.getElem?_modify,h]
  have h2:=A8v b e fz r (cs.set o v) (o+1) _ h1 (by simp;omega) c;rw[World.setCells,h2];by_cases hc:c=b
  ·subst hc;rw[if_pos rfl,if_pos rfl];congr 3;apply List.ext_getElem?;intro m;simp only[List.getElem?_append,List.length_take,E9h,List.length_set,F1h,List.getElem?_take,List.getElem?_set,F1e];have m1:min (o+1) cs.length=o+1:=by omega
   have m2:min o cs.length=o:=by omega
   rw[m1,m2];rcases Nat.lt_trichotomy m o with h3|h3|h3
   ·have a1:m<o+1+r.length:=by omega
    have a2:m<o+1:=by omega
    have a3:m<o+(r.length+1):=by omega
    have a4:¬o=m:=by omega
    simp only[a1,a2,a3,a4,h3,if_true,if_false]
   ·subst h3;have a1:m<m+1+r.length:=by omega
    have a2:m<m+1:=by omega
    have a3:m<m+(r.length+1):=by omega
    have a4:¬m<m:=by omega
    simp only[a1,a2,a3,a4,if_true,if_false,hlt];simp
   ·have a2:¬m<o+1:=by omega
    have a4:¬m<o:=by omega
    have a5:(m<o+1+r.length)↔(m<o+(r.length+1)):=by omega
    by_cases a6:m<o+(r.length+1)
    ·have a7:=a5.2 a6;simp only[a2,a4,a6,a7,if_true,if_false]
     have:m-o=(m-(o+1))+1:=by omega
     rw[this,List.getElem?_cons_succ]
    ·have a7:¬m<o+1+r.length:=fun h=>a6 (a5.1 h)
     have a8:¬o=o+1+r.length+(m-(o+1+r.length)):=by omega
     simp only[a2,a4,a6,a7,if_true,if_false,a8];congr 1;omega
  ·rw[if_neg hc,if_neg hc];simp only[World.setCell,Array.getElem?_modify];rw[if_neg (fun e=>hc e.symm)]
theorem St.setCells{i:Imm}{L:SH}{w:World}{k b o:Nat}{cs vs:List Value}{e:TypeId}{fz:Nat×Nat}(h:St i L w)(hk:L[k]?=some (b,.cells cs.toArray e fz))(hl:o+vs.length≤cs.length):
 St i (L.set k (b,.cells (cs.take o++vs++cs.drop (o+vs.length)).toArray e fz)) (w.setCells b o vs):=by
 obtain⟨h1,h2,h3⟩:=A8r b vs o w;exact h.put hk h1 h2 h3 (A8v b e fz vs cs o w (h.own _ (E9g hk)) hl)
section
variable{Γ:F7→I4→Code→Prop}{ρ:Loc}{D:J8}{n N G:Nat}{f:Tr VV}{h:VH}{fr:Fr}{P:Program}{T:F7}{i:Imm}{L:SH}{dst:Option Nat}{ty:TypeId}{pos:String}{B4:Array Edge}{gd:Option (Nat×Bool)}
theorem X7.move(hL:X7 ρ D h i L)(hn:¬D n){k j:Nat}{vo vo':VO}{o o':Obj}(hk:get k h=some (false,vo))(hj:L[j]?=some (ρ.at_ k,o)){c:Nat}(hlt:vo'.lt (D.add n))(ho:V3 (ρ.add n (ρ.at_ k) c) n vo' o'):
 X7 (ρ.add n (ρ.at_ k) c) (D.add n) (set n (false,vo') (del k h)) i (L.set j (ρ.at_ k,o')):=by
 have hjl:j<L.length:=(E9e.1 hj).1;have hat:∀x,D x→(ρ.add n (ρ.at_ k) c).at_ x=ρ.at_ x:=fun x hx=>(ρ.add_ext hn _ c).at_ x hx
 have hn':(ρ.add n (ρ.at_ k) c).at_ n=ρ.at_ k:=by simp[Loc.add]
 have stay:∀(p:Nat×Obj),p∈L→p.1≠ρ.at_ k→p∈L.set j (ρ.at_ k,o'):=fun p hp hne=>by
  obtain⟨q,hq⟩:=List.getElem?_of_mem hp
  have hqj:q≠j:=by
   rintro rfl;rw[hq] at hj;exact hne (congrArg Prod.fst (Option.some.inj hj))
  exact E9g ((F0q (by omega)).trans hq)
 have old:∀x fz w,x≠n→get x (set n (false,vo') (del k h))=some (fz,w)→x≠k∧get x h=some (fz,w):=fun x fz w hx hg=>by
  rcases A1m hg with⟨e,_⟩|⟨_,hg⟩
  ·exact absurd e hx
  ·exact A1n hg
 refine⟨fun x fz w hx=>?_,fun x y w w' hx hy e=>?_,fun p hp=>?_⟩
 ·by_cases hxn:x=n
  ·subst hxn;rw[C4t] at hx;cases hx;refine⟨.inr rfl,hlt,o',ho,?_⟩;rw[hn'];simp only[Bool.false_eq_true,if_false];exact E9g (List.getElem?_set_self hjl)
  ·obtain⟨h1,h2⟩:=old x fz w hxn hx;obtain⟨h3,h4,o1,h5,h6⟩:=hL.ok x fz w h2;refine⟨.inl h3,VO.lt_mono (D.le_add n) h4,o1,h5.ext (ρ.add_ext hn _ c) h3 h4,?_⟩;rw[hat x h3];split at h6
   ·rename_i hf;rw[if_pos hf];exact h6
   ·rename_i hf;rw[if_neg hf];have hf':fz=false:=by simpa using hf
    subst hf';exact stay _ h6 fun e=>h1 (hL.inj x k w vo h2 hk e)
 ·by_cases hxn:x=n<;>by_cases hyn:y=n
  ·rw[hxn,hyn]
  ·obtain⟨h1,h2⟩:=old y _ _ hyn hy;rw[hxn,hn',hat y (hL.ok _ _ _ h2).1] at e;exact absurd (hL.inj y k w' vo h2 hk e.symm) h1
  ·obtain⟨h1,h2⟩:=old x _ _ hxn hx;rw[hyn,hn',hat x (hL.ok _ _ _ h2).1] at e;exact absurd (hL.inj x k w vo h2 hk e) h1
  ·obtain⟨h1,h2⟩:=old x _ _ hxn hx;obtain⟨h3,h4⟩:=old y _ _ hyn hy;rw[hat x (hL.ok _ _ _ h2).1,hat y (hL.ok _ _ _ h4).1] at e;exact hL.inj x y w w' h2 h4 e
 ·obtain⟨h1,h2⟩:=hL.frm p hp;refine⟨stay p h1 fun e=>h2 k vo hk e.symm,fun x w hx=>?_⟩;by_cases hxn:x=n
  ·subst hxn;rw[hn'];exact h2 k vo hk
  ·obtain⟨_,h4⟩:=old x _ _ hxn hx;rw[hat x (hL.ok _ _ _ h4).1];exact h2 x w h4
theorem X7.del(hL:X7 ρ D h i L)(k:Nat):X7 ρ D (del k h) i L:=hL.sub fun _ _ _ hq=>(A1n hq).2
def C8a(T:F7)(h:VH)(sz tx:Nat):VV→Option (Nat×List VV)
 | .nils=>(match D6 T tx with
   |some ⟨.slice _,_,_,_⟩=>some (0,[])
   |_=>none)
 | .sle _ _ _ _=>(match D6 T tx with
   |some ⟨.slice _,_,_,_⟩=>some (0,[])
   |_=>none)
 | .sl k o m _=>(match D6 T tx with
   |some ⟨.slice _,_,_,_⟩=>(match C7y (get k h) with
    |some l=>(match B3j (m*sz) (B3q o l) with
     |some r=>bif r.all C5m then some (m,r) else none
     |none=>none)
    |_=>none)
   |_=>none)
 | .str s=>(match D6 T tx with
   |some ⟨.string,_,_,_⟩=>bif E9p sz 1 then some (s.length,s.map fun x=>.int .u8 (Int.ofNat (F1m x 256))) else none
   |_=>none)
 |_=>none
theorem B1e(s:List Nat):byteCells (bytesOf s)=s.map fun x=>F0u .u8 (Int.ofNat (F1m x 256)):=by
 unfold byteCells bytesOf;simp only[List.map_map];refine List.map_congr_left fun x _=>?_
 simp;rfl
theorem E6a(hT:T.ok P)(hL:X7 ρ D h i L){sz tx m:Nat}{v:VV}{news:List VV}(hv:C8a T h sz tx v=some (m,news))(hlt:v.lt D):C5 D news∧news.length=m*sz∧∀w,St i L w→Src P sz tx (C2 ρ v) m (C3 ρ news) w:=by
 have one:∀r:List VV,r.all C5m=true→∀u∈C3 ρ r,u.oneCell'=true:=fun r hr u hu=>by
  rw[F2] at hu;obtain⟨q,hq,rfl⟩:=F1k.1 hu;exact C3n (F0c.1 hr q hq)
 unfold C8a at hv;split at hv
 ·split at hv
  ·rename_i e _ _ _ ht;cases hv;have hu:=(B6 hT ht).und;simp only at hu;refine⟨by simp only[C5],by simp,fun w _=>?_⟩;simp only[C2,C3];exact Src.ofNil w hu 0
  ·cases hv
 ·split at hv
  ·rename_i e _ _ _ ht;cases hv;have hu:=(B6 hT ht).und;simp only at hu;refine⟨by simp only[C5],by simp,fun w _=>?_⟩;simp only[C2,C3];exact Src.ofSlice w hu _ 0 _ [] (by simp) (fun j u h=>by simp at h) (fun u h=>by cases h)
  ·cases hv
 ·rename_i k o m' c;split at hv
  ·rename_i e _ _ _ ht;split at hv
   ·rename_i l hk;split at hv
    ·rename_i r hr;cases ho:r.all C5m with
     |false=>rw[ho] at hv;cases hv
     |true=>
      rw[ho] at hv;cases hv;have hu:=(B6 hT ht).und;simp only at hu;obtain⟨h4,sp,ty',fz,h6⟩:=B6u (k:=k) hL (fun _ _ e=>e) hk;obtain⟨h1,h2⟩:=A2e hr;rw[A2f] at h1;refine⟨?_,h2,fun w hw=>?_⟩
      ·exact C6.2 fun v hv=>C6.1 h4 v (F1g (F1d (by rw[←h1];exact hv)))
      ·simp only[C2];refine Src.ofSlice w hu _ _ _ _ (by rw[E5,h2]) (fun j u hj=>?_) (one _ ho);rw[E8,P7 (h6.block hw)];rw[F2,F0k,h1,List.getElem?_take] at hj;split at hj
       ·rw[F1e] at hj;cases hg:l[o+j]? with
        |none=>rw[hg] at hj;cases hj
        |some c=>
         rw[hg] at hj;cases hj;have hlt:=(E9e.1 hg).1;rw[E9t (by rw[E5];exact hlt),F2,F0k,hg];rfl
       ·cases hj
    ·cases hv
   ·cases hv
  ·cases hv
 ·rename_i s;split at hv
  ·rename_i _ _ _ ht;cases hb:E9p sz 1 with
   |false=>rw[hb] at hv;cases hv
   |true=>
    rw[hb] at hv;cases hv
    have:=E9m hb
    subst this;have hu:=(B6 hT ht).und;simp only at hu;have hlen:(bytesOf s).size=s.length:=by unfold bytesOf;show(s.map F0d).toArray.size=_;simp
    have hcells:C3 ρ (s.map fun x=>VV.int .u8 (Int.ofNat (F1m x 256)))=byteCells (bytesOf s):=by
     rw[B1e,F2,List.map_map];refine List.map_congr_left fun x _=>?_
     simp[C2]
    refine⟨C6.2 fun v hv=>?_,by simp,fun w _=>?_⟩
    ·obtain⟨x,_,rfl⟩:=F1k.1 hv;simp only[VV.lt]
    ·rw[hcells];simp only[C2]
     have:=Src.ofString (P:=P) w hu (bytesOf s)
     rw[hlen] at this;exact this
  ·cases hv
 ·cases hv
end
end
noncomputable section
open Go Go.Eng
section
variable{Γ:F7→I4→Code→Prop}{ρ:Loc}{D:J8}{n N G:Nat}{f:Tr VV}{h:VH}{fr:Fr}{P:Program}{T:F7}{i:Imm}{L:SH}{dst:Option Nat}{ty:TypeId}{pos:String}{B4:Array Edge}{gd:Option (Nat×Bool)}
def A5z(h:VH)(b:Nat)(c:Cap)(k:Nat):Bool:=
 match c with
 | .fix c=>F0n k c
 | .rest i=>(match get b h with
   |some (_,.cells l _ sz)=>F0e 0 sz&&F0n ((i+k)*sz) l.length
   |_=>false)
theorem A7f(hL:X7 ρ D h i L){b k:Nat}{c:Cap}(hc:A5z h b c k=true):k≤ρ.capOf b c:=by
 cases c with
 |fix c=>exact E9w hc
 |rest j=>
  unfold A5z at hc;simp only at hc;split at hc
  ·rename_i fz l ty' sz hb;simp only[E9j,F1j] at hc;obtain⟨h1,h2⟩:=hc;have h2:=E9w h2;obtain⟨_,_,ob,⟨sp,rfl,h4⟩,_⟩:=hL.has hb;have h5:(j+k)*sz≤ρ.cap b*sz:=by omega
   have h6:=Nat.le_of_mul_le_mul_right h5 h1;simp only[Loc.capOf];omega
  ·cases hc
def B7u(T:F7)(t tx:Nat)(a b:VV)(h:VH)(n:Nat):Option Eff:=
 match D6 T t with
 |some ⟨.slice e,_,_,_⟩=>(match D6 T e with
  |some te=>bif F0e 0 te.size then(match C8a T h te.size tx b with
   |some (m,news)=>(match a with
    | .nils=>(match m with
      |0=>some ⟨some .nils,h,n⟩
      |m+1=>bif F0n ((m+1)*te.bytes) 1099511627776&&F0n (m+1) 1099511627776 then some ⟨some (.sl n 0 (m+1) (.rest 0)),set n (false,.cells news e te.size) h,n+1⟩ else none)
    | .sl k o len c=>(match m with
      |0=>bif A5z h k c len then some ⟨some (.sl k o len c),h,n⟩ else none
      |m+1=>(match get k h with
       |some (fz,.cells l ty' sz')=>bif A5z h k c (len+(m+1)) then
        bif fz then none else(match B4p l (o+len*te.size) news with
         |some l'=>some ⟨some (.sl k o (len+(m+1)) c),set k (false,.cells l' ty' sz') h,n⟩
         |none=>none)
         else bif F0n ((len+(m+1))*te.bytes) 1099511627776&&F0n (len+(m+1)) 1099511627776 then(match c with
          | .fix c'=>bif F0e c' (len+(m+1)) then(match B3j (len*te.size) (B3q o l) with
           |some olds=>some ⟨some (.sl n 0 (len+(m+1)) (.rest 0)),set n (false,.cells (olds++news) e te.size) h,n+1⟩
           |none=>none) else none
          | .rest 0=>bif !fz&&E9p o 0&&E9p l.length (len*te.size)&&E9p ty' e&&E9p sz' te.size then
           some ⟨some (.sl n 0 (len+(m+1)) (.rest 0)),set n (false,.cells (l++news) e te.size) (del k h),n+1⟩ else none
          |_=>none) else none
       |_=>none))
    |_=>none)
   |none=>none) else none
  |none=>none)
 |_=>none
theorem A2q(w:World)(t tx ty e:TypeId)(ti:TypeInfo)(ht:P.underlying t=some (.slice e))(hi:P.info? e=some ti)(base:Option Addr)(k cap:Nat)(hk:k≤cap)(x:Value)(hs:Src P ti.size tx x 0 [] w):
 (Builtin.append_ #[t,tx] ty #[.slice base k cap,x]).run P w=.ok (.slice base k cap) w:=by
 have hc:=hs.cells;rcases hs.kind with⟨e',hk'⟩|hk'<;>cases base<;>simp[Builtin.append_,run_underlying ht,run_underlying hk',sizeOf,typeInfo,hi,hs.len,hk,hc,storeCells]
theorem E5g(hL:X7 ρ D h i L)(hD:¬D n){w w':World}(hw:St i L w){o:Oper}{e sz need cap:Nat}{cs:List VV}{sp:List Value}(hlt:C5 D cs)(hlen:cs.length+sp.length=cap*sz)
 (hr:(execOp (ev N fr) o).run P w=.ok (.value (.slice (some ⟨w.heap.size,0,none⟩) need cap)) w') (hw':w'=w.drew.alloc (.cells ((C3 ρ cs).toArray++sp.toArray) e)):
 ∃v w' i' L',(execOp (ev N fr) o).run P w=.ok (.value v) w'∧i.le i'∧St i' L' w'∧G3 ρ D n ⟨some (.sl n 0 need (.rest 0)),set n (false,.cells cs e sz) h,n+1⟩ v i' L':=by
 have hst:St i ((w.heap.size,.cells ((C3 ρ cs).toArray++sp.toArray) e (0,0))::L) w':=by
  subst hw';exact St.push (w:=w.drew) hw.drew rfl rfl rfl rfl
 refine⟨_,w',i,_,hr,Imm.le.refl i,hst,ρ.add n w.heap.size cap,ρ.add_ext hD _ _,Nat.le_succ n,(X7.push (vo:=.cells cs e sz) (c:=cap) hL hD hst.nodup ?_ ⟨sp,?_,?_⟩).mono (B0v D n),fun v' hv'=>?_⟩
 ·exact J5 (D.le_add n) cs hlt
 ·rw[B0h (ρ.add_ext hD _ _) cs hlt];simp
 ·simpa [Loc.add] using hlen
 ·cases hv';refine⟨?_,?_⟩
  ·simp only[VV.lt];exact .inr ⟨E9q n,Nat.lt_succ_self n⟩
  ·simp[C2,Loc.add,Loc.capOf]
theorem A5b{D:J8}{a b:List VV}(ha:C5 D a)(hb:C5 D b):C5 D (a++b):=C6.2 fun v hv=>(E9r.1 hv).elim (C6.1 ha v) (C6.1 hb v)
theorem V6(ρ:Loc)(a b:List VV):C3 ρ (a++b)=C3 ρ a++C3 ρ b:=by simp only[F2,List.map_append]
theorem D0z(hT:T.ok P)(hL:X7 ρ D h i L)(hD:X2 D n){t tx:Nat}{x y:Operand}{a b:VV}{e:Eff}(hx:ev N fr x=C2 ρ a)(hy:ev N fr y=C2 ρ b)(ha:a.lt D)(hb:b.lt D)(he:B7u T t tx a b h n=some e):
 P3 P N ⟨dst,.call ⟨.builtin .append,#[x,y],#[t,tx]⟩,ty,pos,B4,gd⟩ fr i L (G3 ρ D n e):=by
 unfold B7u at he;split at he
 ·rename_i el _ _ _ ht;split at he
  ·rename_i te hte;cases hb0:F0e 0 te.size with
   |false=>rw[hb0] at he;cases he
   |true=>
   rw[hb0] at he;simp only[cond_true] at he;have hpos:0<te.size:=by simpa [F1j] using hb0
   split at he
   ·rename_i m news hs;obtain⟨n1,n2,n3⟩:=E6a hT hL hs hb;have hu:=(B6 hT ht).und;simp only at hu;obtain⟨_,hzl,ti,z,hi,hsz,hby,hz,hzc⟩:=B6 hT hte;have hzs:z.cells.size=te.size:=by rw[hzc,List.size_toArray,hzl]
    have hex:∀w r w',(Builtin.append_ #[t,tx] ty #[C2 ρ a,C2 ρ b]).run P w=.ok r w'→(execOp (ev N fr) ⟨dst,.call ⟨.builtin .append,#[x,y],#[t,tx]⟩,ty,pos,B4,gd⟩).run P w=.ok (.value r) w':=by
     intro w r w' hr;simp[execOp,resolve,hx,hy,invoke,builtin,hr]
    have grow:∀(base:Option Addr)(len cap:Nat)(olds:List VV)(w:World),St i L w→C2 ρ a=.slice base len cap→C5 D olds→(Builtin.firstCells te.size len (.slice base len cap)).run P w.drew=.ok (C3 ρ olds).toArray w.drew→olds.length=len*te.size→
     cap<len+m→(len+m)*te.bytes≤1099511627776→len+m≤1099511627776→∀hx':VH,X7 ρ D hx' i L→∃v w' i' L',(execOp (ev N fr) ⟨dst,.call ⟨.builtin .append,#[x,y],#[t,tx]⟩,ty,pos,B4,gd⟩).run P w=.ok (.value v) w'∧i.le i'∧St i' L' w'∧
      G3 ρ D n ⟨some (.sl n 0 (len+m) (.rest 0)),set n (false,.cells (olds++news) el te.size) hx',n+1⟩ v i' L':=by
     intro base len cap olds w hw hav holt hold hol hcap hb1 hb2 hx' hLx;have hr:=run_append_grow_src (P:=P) w t tx ty el ti z hu hi hz base len cap (C3 ρ olds) (by rw[hsz];exact hold) (C2 ρ b) m (C3 ρ news) (by rw[hsz];exact n3 w hw) hcap (by omega) (by rw[hby];exact growslice_fits hcap (by omega));rw[←hav] at hr;have hge:=grownCap_ge w (len+m) cap el;refine E5g hLx hD.not hw (A5b holt n1) (sp:=(F1n z.cells (grownCap w (len+m) cap el-(len+m))).toList) (sz:=te.size) ?_ (hex w _ _ hr) ?_
     ·rw[E9h,hol,n2,Array.length_toList,size_zeroCells,hzs,←F1f,←F1f];congr 1;omega
     ·rw[V6]
    split at he
    ·
     split at he
     ·cases he;refine M4 (v:=C2 ρ .nils) (fun w hw=>hex w _ _ ?_) (Y6 hL (by simp only[VV.lt]));have hsr:=n3 w hw;have hn0:news=[]:=F0t (by simpa using n2);subst hn0;simp only[C2];exact A2q w t tx ty el ti hu hi none 0 0 (E9q _) _ (by rw[hsz];exact hsr)
     ·rename_i m';cases hbb:(F0n ((m'+1)*te.bytes) 1099511627776&&F0n (m'+1) 1099511627776) with
      |false=>rw[hbb] at he;cases he
      |true=>
       rw[hbb] at he;cases he;simp only[E9j] at hbb;refine F5 fun w hw=>?_
       have:=grow none 0 0 [] w hw (by simp only[C2]) (by simp only[C5]) (run_firstCells_none w.drew te.size 0 0 0) (by simp) (by omega) (by rw[F1b];exact E9w hbb.1) (by rw[F1b];exact E9w hbb.2) h hL
       simpa using this
    ·rename_i k o len c;split at he
     ·cases hc:A5z h k c len with
      |false=>rw[hc] at he;cases he
      |true=>
       rw[hc] at he;cases he;refine M4 (v:=C2 ρ (.sl k o len c)) (fun w hw=>hex w _ _ ?_) (Y6 hL ha);have hsr:=n3 w hw;have hn0:news=[]:=F0t (by simpa using n2);subst hn0;simp only[C2];exact A2q w t tx ty el ti hu hi _ len _ (A7f hL hc) _ (by rw[hsz];exact hsr)
     ·rename_i m';split at he
      ·rename_i fz l ty' sz' hk;obtain⟨hkD,hklt,ob,⟨sp,rfl,hcapk⟩,hkhas⟩:=hL.has hk;cases hc:A5z h k c (len+(m'+1)) with
       |true=>
        rw[hc] at he;simp only[cond_true] at he;cases fz with
        |true=>cases he
        |false=>
        simp only[cond_false] at he;split at he
        ·rename_i l' hp;cases he;obtain⟨p1,p2⟩:=A2v hp;obtain⟨ob,j,⟨sp,rfl,hcapk⟩,hj⟩:=X7.own hL hk;refine F5 fun w hw=>?_
         have hg:=hw.own _ (E9g hj);simp only at hg;have hnl:(C3 ρ news).length=news.length:=E5 ..
         have hcell:∀q,q<(C3 ρ news).length→(w.cell? ⟨ρ.at_ k,o+len*te.size+q,none⟩).isSome=true:=fun q hq=>by
          rw[P7 hg,E9t (by rw[E5];omega),E9v (by rw[E5];omega)];rfl
         have hfz:∀q,q<(C3 ρ news).length→w.frozen? ⟨ρ.at_ k,o+len*te.size+q,none⟩=false:=fun q _=>by
          simp[World.frozen?,hg]
         have hr:=run_append_room_src (P:=P) w t tx ty el ti hu hi (ρ.at_ k) o len (ρ.capOf k c) (C2 ρ b) (m'+1) (C3 ρ news) (by rw[hsz];exact n3 w hw) (A7f hL hc) (by rw[hsz];exact hcell) (by rw[hsz];exact hfz);rw[hsz] at hr;have hst:=St.setCells hw (vs:=C3 ρ news) (o:=o+len*te.size) hj (by rw[E9h,E5,E5];omega)
         have hlt':C5 D l':=C6.2 fun u hu=>by
          rw[p2,E9r,E9r] at hu;rcases hu with(hu|hu)|hu
          ·exact C6.1 hklt u (F1d hu)
          ·exact C6.1 n1 u hu
          ·exact C6.1 hklt u (F1g hu)
         have hlen':l'.length=l.length:=by rw[p2];simp;omega
         refine⟨_,_,i,_,hex w _ _ (by simp only[C2];exact hr),Imm.le.refl i,hst,ρ,Ext.refl D ρ,E9q n,?_,fun v hv=>?_⟩
         ·refine LayP.mono (X7.put hL (vo':=.cells l' ty' sz') hk hj hlt' ⟨sp,?_,by rw[hlen'];exact hcapk⟩) (D.le_upto n n);congr 2;rw[p2,V6,V6];simp only[F2,List.map_take,List.map_drop,F1t];rw[List.take_append_of_le_length (by rw[F1t];omega),List.drop_append_of_le_length (by rw[F1t];omega)];simp only[F0p]
         ·cases hv;refine⟨?_,by simp only[C2]⟩;simp only[VV.lt];exact .inl hkD
        ·cases he
       |false=>
        rw[hc] at he;simp only[cond_false] at he;cases hbb:(F0n ((len+(m'+1))*te.bytes) 1099511627776&&F0n (len+(m'+1)) 1099511627776) with
        |false=>rw[hbb] at he;cases he
        |true=>
        rw[hbb] at he;simp only[cond_true] at he;simp only[E9j] at hbb;have hb1:=E9w hbb.1;have hb2:=E9w hbb.2;split at he
        ·rename_i c';cases hcc:F0e c' (len+(m'+1)) with
         |false=>rw[hcc] at he;cases he
         |true=>
         rw[hcc] at he;simp only[cond_true] at he;split at he
         ·rename_i olds hol;cases he;obtain⟨t1,t2⟩:=A2e hol;rw[A2f] at t1;refine F5 fun w hw=>?_
          refine grow (some ⟨ρ.at_ k,o,none⟩) len c' olds w hw (by simp only[C2,Loc.capOf]) ?_ (run_firstCells_some w.drew te.size len _ len c' (C3 ρ olds) (by rw[E5,t2]) fun q u hq=>?_) t2 (by simpa [F1j] using hcc) hb1 hb2 h hL
          ·exact C6.2 fun v hv=>C6.1 hklt v (F1g (F1d (by rw[←t1];exact hv)))
          ·rw[E8];show w.cell? _=_;rw[P7 (hkhas.block hw)];rw[F2,F0k,t1,List.getElem?_take] at hq;split at hq
           ·rw[F1e] at hq;cases hg:l[o+q]? with
            |none=>rw[hg] at hq;cases hq
            |some c=>
             rw[hg] at hq;cases hq;have hlt:=(E9e.1 hg).1;rw[E9t (by rw[E5];exact hlt),F2,F0k,hg];rfl
           ·cases hq
         ·cases he
        ·cases hcc:(!fz&&E9p o 0&&E9p l.length (len*te.size)&&E9p ty' el&&E9p sz' te.size) with
         |false=>rw[hcc] at he;cases he
         |true=>
         rw[hcc] at he;cases he;simp only[E9j,Bool.not_eq_true'] at hcc;obtain⟨⟨⟨⟨q1,q2⟩,q3⟩,q4⟩,q5⟩:=hcc;have q2:=E9m q2;have q3:=E9m q3;have q4:=E9m q4;have q5:=E9m q5;subst q1;subst q2;subst q4;subst q5;obtain⟨ob,j,⟨sp,rfl,hcapk⟩,hj⟩:=X7.own hL hk;refine F5 fun w hw=>?_
         have hg:=hw.own _ (E9g hj);simp only at hg;by_cases hroom:len+(m'+1)≤ρ.cap k
         ·
          have n2':news.length=(m'+1)*te.size:=n2
          have hspl:news.length≤sp.length:=by
           have:=Nat.mul_le_mul_right te.size hroom
           rw[F1f] at this;omega
          have hcell:∀q,q<(C3 ρ news).length→(w.cell? ⟨ρ.at_ k,0+len*te.size+q,none⟩).isSome=true:=fun q hq=>by
           rw[E5] at hq;rw[P7 hg,E9v (by rw[E9h,E5];omega)];rfl
          have hfz:∀q,q<(C3 ρ news).length→w.frozen? ⟨ρ.at_ k,0+len*te.size+q,none⟩=false:=fun q _=>by
           simp[World.frozen?,hg]
          have hr:=run_append_room_src (P:=P) w t tx ty ty' ti hu hi (ρ.at_ k) 0 len (ρ.cap k) (C2 ρ b) (m'+1) (C3 ρ news) (by rw[hsz];exact n3 w hw) hroom (by rw[hsz];exact hcell) (by rw[hsz];exact hfz);rw[hsz] at hr;have hst:=St.setCells hw (vs:=C3 ρ news) (o:=0+len*te.size) hj (by rw[E9h,E5,E5];omega);refine⟨_,_,i,_,hex w _ _ (by simp only[C2,Loc.capOf,Nat.sub_zero];exact hr),Imm.le.refl i,hst,ρ.add n (ρ.at_ k) (ρ.cap k),ρ.add_ext hD.not _ _,Nat.le_succ n,(X7.move hL hD.not (vo':=.cells (l++news) ty' te.size) hk hj (J5 (D.le_add n) _ (A5b hklt n1)) ⟨sp.drop news.length,?_,?_⟩).mono (B0v D n),fun v hv=>?_⟩
          ·rw[B0h (ρ.add_ext hD.not _ _) _ (A5b hklt n1),V6];congr 2
           have e1:(C3 ρ l++sp).take (0+len*te.size)=C3 ρ l:=by
            rw[F1b,←q3,←E5 ρ l,List.take_left]
           have e2:(C3 ρ l++sp).drop (0+len*te.size+(C3 ρ news).length)=sp.drop news.length:=by
            rw[F1b,←q3,E5,←E5 ρ l,←F1u,List.drop_left]
           rw[e1,e2]
          ·rw[E9h,List.length_drop];simp only[Loc.add,if_true];omega
          ·cases hv;refine⟨?_,?_⟩
           ·simp only[VV.lt];exact .inr ⟨E9q n,Nat.lt_succ_self n⟩
           ·simp[C2,Loc.add,Loc.capOf]
         ·
          refine grow (some ⟨ρ.at_ k,0,none⟩) len (ρ.cap k) l w hw (by simp only[C2,Loc.capOf,Nat.sub_zero]) hklt (run_firstCells_some w.drew te.size len _ len _ (C3 ρ l) (by rw[E5,q3]) fun q u hq=>?_) q3 (by omega) hb1 hb2 (del k h) (X7.del hL k);rw[E8];show w.cell? _=_;rw[P7 hg,F1b,E9t (E9e.1 hq).1,hq]
        ·cases he
      ·cases he
    ·cases he
   ·cases he
  ·cases he
 ·cases he
end
end
noncomputable section
open Go Go.Eng
section
variable{Γ:F7→I4→Code→Prop}{ρ:Loc}{D:J8}{n N G:Nat}{f:Tr VV}{h:VH}{fr:Fr}{P:Program}{T:F7}{i:Imm}{L:SH}{dst:Option Nat}{ty:TypeId}{pos:String}{B4:Array Edge}{gd:Option (Nat×Bool)}
def X8(zs:List VV):Nat→List VV
 |0=>[]
 |k+1=>zs++X8 zs k
theorem B0k(zs:List VV):∀k,(X8 zs k).length=k*zs.length
 |0=>by simp[X8]
 |k+1=>by rw[X8,E9h,B0k zs k,Nat.succ_mul];omega
theorem B6v(zs:List VV):∀k j,j<k*zs.length→(X8 zs k)[j]?=zs[j % zs.length]?
 |0,j,h=>by simp at h
 |k+1,j,h=>by
  rw[X8,List.getElem?_append];by_cases hj:j<zs.length
  ·rw[if_pos hj,Nat.mod_eq_of_lt hj]
  ·rw[if_neg hj,B6v zs k (j-zs.length) (by rw[F1f,Nat.one_mul] at h;omega),←Nat.mod_eq_sub_mod (by omega)]
def D2g(T:F7)(N G:Nat)(f:Tr VV)(t:Nat)(x y:Operand)(n:Nat):Option (VV×VO):=
 match D6 T t with
 |some ⟨.slice e,_,_,_⟩=>(match D6 T e with
  |some te=>(match evO N G f x with
   |some (.int _ (.ofNat l))=>(match evO N G f y with
    |some (.int _ (.ofNat c))=>(match C2e te.zero with
     |some zs=>bif F0n l c&&F0e 0 te.size&&F0n (te.bytes*c) 16777216&&F0n c 16777216 then some (.sl n 0 l (.fix c),.cells (X8 zs c) e te.size) else none
     |none=>none)
    |_=>none)
   |_=>none)
  |none=>none)
 |_=>none
theorem D9k(hT:T.ok P)(hS:G5 ρ D f fr)(hG:Glob Γ ρ D G){t:Nat}{x y:Operand}{v:VV}{vo:VO}(he:D2g T N G f t x y n=some (v,vo)):P3 P N ⟨dst,.makeSlice t x y,ty,pos,B4,gd⟩ fr i L (B9w ρ D n v vo i L):=by
 unfold D2g at he;split at he
 ·rename_i e _ _ _ ht;split at he
  ·rename_i te hte;split at he
   ·rename_i k1 l hx;split at he
    ·rename_i k2 c hy;split at he
     ·rename_i zs hzs;cases hb:(F0n l c&&F0e 0 te.size&&F0n (te.bytes*c) 16777216&&F0n c 16777216) with
      |false=>rw[hb] at he;cases he
      |true=>
       rw[hb] at he;cases he;simp only[E9j,F1j] at hb;obtain⟨⟨⟨b1,b2⟩,b3⟩,b4⟩:=hb;have b1:=E9w b1;have b3:=E9w b3;have b4:=E9w b4;have hx':=(D5 hS hG hx).2;have hy':=(D5 hS hG hy).2;simp only[C2] at hx' hy';have hu:=(B6 hT ht).und;simp only at hu;obtain⟨_,hzl,ti,z,hi,hs,hbb,hz,hzc⟩:=B6 hT hte;obtain⟨z1,z2⟩:=A1j ρ D hzs;have hzlen:zs.length=te.size:=by rw[←hzl,←z2,E5]
       have hzz:z.cells=(C3 ρ zs).toArray:=by rw[hzc,z2]
       refine A4t (mk:=fun b=>.slice (some ⟨b,0,none⟩) l c) (ob:=.cells (madeCells z.cells (c*te.size)) e (0,0)) (c:=c) (F5 fun w hw=>?_) ?_ (by simp[VV.lt,J8.add]) (fun b=>⟨[],?_,?_⟩) fun b=>?_
       ·have hbytes:((ti.bytes:Int)*(c:Int))≤281474976710656:=by rw[hbb,←Int.natCast_mul];omega
        have hr:=run_make (P:=P) w t e ti z hu hi hz k1 k2 (l:Int) (c:Int) (by omega) (by omega) hbytes (by omega);simp only[Int.toNat_natCast,hs] at hr;refine⟨_,w.alloc (.cells (madeCells z.cells (c*te.size)) e (0,0)),i,_,?_,Imm.le.refl i,St.push hw rfl rfl rfl rfl,w.heap.size,rfl,rfl,rfl⟩;simp only[execOp,hx',hy'];simp[hr]
       ·simp only[VO.lt];refine C6.2 fun v hv=>?_
        have:∀k,v∈X8 zs k→v∈zs:=by
         intro k;induction k with
         |zero=>intro h;cases h
         |succ k ih=>intro h;rw[X8,E9r] at h;exact h.elim id ih
        exact VV.lt_mono (D.le_add n) v (C6.1 z1 v (this c hv))
       ·have e1:C3 (ρ.add n b c) zs=C3 ρ zs:=by
         rw[(A1j (ρ.add n b c) D hzs).2,z2]
        have:(madeCells z.cells (c*te.size))=(C3 (ρ.add n b c) (X8 zs c)).toArray:=by
         apply Array.ext_getElem?;intro j;rw[show((C3 (ρ.add n b c) (X8 zs c)).toArray)[j]?=((X8 zs c)[j]?).map (C2 (ρ.add n b c)) from by rw[List.getElem?_toArray,F2,F0k]];by_cases hj:j<c*te.size
         ·rw[B6v zs c j (by rw[hzlen];exact hj),hzlen];unfold madeCells;rw[Array.getElem?_map,Array.getElem?_range,if_pos hj,F1q,hzz];have hm:j % te.size<zs.length:=by rw[hzlen];exact Nat.mod_lt _ b2
          have hsz':(C3 ρ zs).toArray.size=te.size:=by rw[List.size_toArray,E5,hzlen]
          rw[hsz']
          have h3:((C3 ρ zs).toArray)[j % te.size]?=some (C2 ρ zs[j % te.size]):=by
           rw[List.getElem?_toArray,F2,F0k,E9v hm];rfl
          rw[getElem!_def,h3,E9v hm]
          have h4:C2 (ρ.add n b c) zs[j % te.size]=C2 ρ zs[j % te.size]:=by
           have h5:=congrArg (fun l=>l[j % te.size]?) e1;simp only[F2,F0k,E9v hm,F1q,Option.some.injEq] at h5;exact h5
          simp[h4]
         ·have h1:(X8 zs c)[j]?=none:=by rw[List.getElem?_eq_none_iff,B0k,hzlen];omega
          have h2:(madeCells z.cells (c*te.size))[j]?=none:=by
           unfold madeCells;rw[Array.getElem?_map,Array.getElem?_range,if_neg hj];rfl
          rw[h1,h2];rfl
        rw[List.append_nil,this]
       ·simp only[List.length_nil,Nat.add_zero,B0k,hzlen];simp[Loc.add]
       ·simp[C2,Loc.add,Loc.capOf]
     ·cases he
    ·cases he
   ·cases he
  ·cases he
 ·cases he
def D4x:List VV→Option (List Nat)
 |[]=>some []
 | .int .u8 (.ofNat a)::l=>(match D4x l with
   |some s=>some (a::s)
   |none=>none)
 |_=>none
theorem C8g{ρ:Loc}:∀{l:List VV}{s:List Nat},D4x l=some s→∀acc:ByteArray,Go.Eng.bytesOf (C3 ρ l) acc=some (acc++Ev.bytesOf s)
 |[],s,h,acc=>by
  cases h;simp only[C3,Go.Eng.bytesOf,Option.some.injEq];apply ByteArray.ext;simp[Ev.bytesOf]
 |v::l,s,h,acc=>by
  unfold D4x at h;split at h
  ·rename_i hq;cases hq
  ·rename_i a l' hq;cases hq;split at h
   ·rename_i s' hs;cases h;have ih:=C8g (ρ:=ρ) hs (acc.push (F0d a));simp only[C3,C2,Go.Eng.bytesOf];have e1:(Int.ofNat a).toNat=a:=rfl;rw[e1,ih];congr 1;apply ByteArray.ext;simp[Ev.bytesOf,ByteArray.push]
   ·cases h
  ·cases h
def B7r(T:F7)(s d:Nat)(h:VH)(a:VV):Option VV:=
 match D6 T s with
 |some ⟨.slice e,_,_,_⟩=>(match D6 T e with
  |some ⟨.int .u8,_,_,_⟩=>(match D6 T d with
   |some ⟨.string,_,_,_⟩=>(match a with
    | .nils=>some (.str [])
    | .sl k o m _=>(match C7y (get k h) with
      |some l=>(match B3j m (B3q o l) with
       |some r=>(match D4x r with
        |some s=>some (.str s)
        |none=>none)
       |none=>none)
      |_=>none)
    |_=>none)
   |_=>none)
  |_=>none)
 |_=>none
theorem D0x(hT:T.ok P)(hL:X7 ρ D h i L){s d:Nat}{x:Operand}{a v:VV}(hx:ev N fr x=C2 ρ a)(he:B7r T s d h a=some v):v.lt D∧LV P N fr i L ⟨dst,.convert s d x,ty,pos,B4,gd⟩ (C2 ρ v):=by
 unfold B7r at he;split at he
 ·rename_i e _ _ _ hs;split at he
  ·rename_i _ _ _ hte;split at he
   ·rename_i _ _ _ hd;have u1:=(B6 hT hs).und;have u2:=(B6 hT hte).und;have u3:=(B6 hT hd).und;simp only at u1 u2 u3;split at he
    ·cases he;refine⟨by simp only[VV.lt],?_⟩;unfold LV;intro w hw;simp only[C2] at hx⊢;simp[execOp,hx,convert,run_underlying u1,run_underlying u2,run_underlying u3,Conv.bytesToString];rfl
    ·rename_i k o m c;split at he
     ·rename_i l hk;split at he
      ·rename_i r hr;split at he
       ·rename_i str hstr;cases he;obtain⟨h4,sp,ty',fz,h6⟩:=B6u (k:=k) hL (fun _ _ e=>e) hk;obtain⟨t1,t2⟩:=A2e hr;rw[A2f] at t1;refine⟨by simp only[VV.lt],?_⟩;unfold LV;intro w hw
        have hc:=run_loadCells_list (P:=P) w ⟨ρ.at_ k,o,none⟩ (C3 ρ r) (fun j u hj=>by
         rw[E8,P7 (h6.block hw)];rw[F2,F0k,t1,List.getElem?_take] at hj;split at hj
         ·rw[F1e] at hj;cases hg:l[o+j]? with
          |none=>rw[hg] at hj;cases hj
          |some c=>
           rw[hg] at hj;cases hj;have hlt:=(E9e.1 hg).1;rw[E9t (by rw[E5];exact hlt),F2,F0k,hg];rfl
         ·cases hj)
        rw[E5,t2] at hc;simp only[C2] at hx⊢;have hb:=C8g (ρ:=ρ) hstr E9f;have he0:E9f++Ev.bytesOf str=Ev.bytesOf str:=by apply ByteArray.ext;simp
        rw[he0] at hb;simp only[execOp,hx,convert,run_underlying u1,run_underlying u2,run_underlying u3,Conv.bytesToString,Sem.run_bind,Result.andThen_ok,hc,List.forIn_toArray];rw[B2f w _ (fun _ _=>rfl) _ E9f _ hb];simp
       ·cases he
      ·cases he
     ·cases he
    ·cases he
   ·cases he
  ·cases he
 ·cases he
def D2h(T:F7)(t:Nat)(h:VH)(a:VV):Option VV:=
 match D6 T t with
 |some ⟨.map _ _,_,_,_⟩=>(match E2z h a with
  |some es=>some (.int .i64 (.ofNat es.length))
  |none=>none)
 |_=>none
theorem D9m(hT:T.ok P)(hL:X7 ρ D h i L){t:Nat}{x:Operand}{a v:VV}(hx:ev N fr x=C2 ρ a)(ha:a.lt D)(he:D2h T t h a=some v):v.lt D∧LV P N fr i L ⟨dst,.call ⟨.builtin .len,#[x],#[t]⟩,ty,pos,B4,gd⟩ (C2 ρ v):=by
 unfold D2h at he;split at he
 ·rename_i kt et _ _ _ ht;split at he
  ·rename_i es hes;cases he;have u1:=(B6 hT ht).und;simp only at u1;obtain⟨_,e2⟩:=C4e hL hes ha;refine⟨by simp only[VV.lt],?_⟩;unfold LV;intro w hw;rcases e2 with⟨e2,e3⟩|⟨b,c,e2,e3⟩
   ·subst e3;rw[e2] at hx;simp only[C2];simp[execOp,resolve,hx,invoke,builtin,Builtin.len_,run_underlying u1];rfl
   ·rw[e2] at hx;have g1:(getObj b).run P w=.ok (.map (N5 ρ es).toArray c) w:=M9 (e3.block hw);simp only[C2];simp[execOp,resolve,hx,invoke,builtin,Builtin.len_,run_underlying u1,g1,goInt,N5]
  ·cases he
 ·cases he
def B7m(T:F7)(N G:Nat)(f:Tr VV)(s d:Nat)(x:Operand)(n:Nat):Option (VV×VO):=
 match D6 T s with
 |some ⟨.string,_,_,_⟩=>(match D6 T d with
  |some ⟨.slice e,_,_,_⟩=>(match D6 T e with
   |some ⟨.int .u8,_,_,_⟩=>(match evO N G f x with
    |some (.str l)=>some (.sl n 0 l.length (.rest 0),.row (l.map fun a=>.int .u8 (Int.ofNat (F1m a 256))) e 1)
    |_=>none)
   |_=>none)
  |_=>none)
 |_=>none
theorem D0u(hT:T.ok P)(hS:G5 ρ D f fr)(hG:Glob Γ ρ D G){s d:Nat}{x:Operand}{v:VV}{vo:VO}(he:B7m T N G f s d x n=some (v,vo)):P3 P N ⟨dst,.convert s d x,ty,pos,B4,gd⟩ fr i L (B9w ρ D n v vo i L):=by
 unfold B7m at he;split at he
 ·rename_i _ _ _ hs;split at he
  ·rename_i e _ _ _ hd;split at he
   ·rename_i _ _ _ hte;split at he
    ·rename_i l hx;cases he;have u1:=(B6 hT hs).und;have u2:=(B6 hT hd).und;have u3:=(B6 hT hte).und;simp only at u1 u2 u3;have hx':=(D5 hS hG hx).2;simp only[C2] at hx';have hlen:(bytesOf l).size=l.length:=by unfold bytesOf;show(l.map F0d).toArray.size=_;simp
     refine F5 fun w hw=>?_
     have hr:=run_bytes_of_string (P:=P) w s d e (bytesOf l) u1 u2 u3;rw[hlen] at hr;have hge:=grownCap_ge w l.length 0 e;obtain⟨cap,hcap⟩:∃cap,cap=grownCap w l.length 0 e:=⟨_,rfl⟩;rw[←hcap] at hr hge;refine⟨_,w.drew.alloc (.cells (bytesRow (bytesOf l) cap) e ((bytesRow (bytesOf l) cap).size,(bytesRow (bytesOf l) cap).size+1)),i,_,by simp only[execOp,hx'];simp[hr];rfl,Imm.le.refl i,St.push (w:=w.drew) hw.drew rfl rfl rfl rfl,rfl,by simp[VV.lt,J8.add],?_,w.heap.size,_,cap,rfl,?_,(Array.replicate (cap-l.length) (.int .u8 0)).toList,((bytesRow (bytesOf l) cap).size,(bytesRow (bytesOf l) cap).size+1),congrArg (fun a=>E9n a e ((bytesRow (bytesOf l) cap).size,(bytesRow (bytesOf l) cap).size+1)) ?_,?_⟩
     ·refine C6.2 fun v hv=>?_
      obtain⟨a,_,rfl⟩:=F1k.1 hv;simp only[VV.lt]
     ·simp[C2,Loc.add,Loc.capOf]
     ·have e1:C3 (ρ.add n w.heap.size cap) (l.map fun a=>VV.int .u8 (Int.ofNat (F1m a 256)))=byteCells (bytesOf l):=by
       rw[B1e,F2,List.map_map];refine List.map_congr_left fun x _=>?_
       simp[C2]
      have e2:bytesRow (bytesOf l) cap=(byteCells (bytesOf l)++(Array.replicate (cap-l.length) (F0u .u8 0)).toList).toArray:=by
       unfold bytesRow byteCells;rw[hlen];apply F1w;simp
      rw[e1];exact e2
     ·simp only[F1t,Array.length_toList,Array.size_replicate];simp[Loc.add];omega
    ·cases he
   ·cases he
  ·cases he
 ·cases he
end
end
noncomputable section
open Go Go.Eng
section
variable{Γ:F7→I4→Code→Prop}{ρ:Loc}{D:J8}{n N G:Nat}{f:Tr VV}{h:VH}{fr:Fr}{P:Program}{T:F7}{i:Imm}{L:SH}{dst:Option Nat}{ty:TypeId}{pos:String}{B4:Array Edge}{gd:Option (Nat×Bool)}
def isC:Operand→Bool
 | .const _=>true
 |_=>false
def V0(T:F7)(t:Nat):Nat:=
 match D6 T t with
 |some ⟨.interface _,_,_,_⟩=>0
 |some ⟨.func _ _ _,_,_,_⟩=>1
 |some ⟨.slice _,_,_,_⟩=>2
 |some ⟨.map _ _,_,_,_⟩=>3
 |_=>4
def B3p(T:F7)(t:Nat)(c:Bool)(a b:VV):Option Bool:=
 match a,b with
 | .nili,.nili=>bif c&&E9p (V0 T t) 0 then some true else none
 | .nili,.iface _ _=>bif E9p (V0 T t) 0 then some false else none
 | .iface _ _,.nili=>bif E9p (V0 T t) 0 then some false else none
 | .nilf,.nilf=>bif E9p (V0 T t) 1 then some true else none
 | .nilf,.fn _ _ _=>bif E9p (V0 T t) 1 then some false else none
 | .fn _ _ _,.nilf=>bif E9p (V0 T t) 1 then some false else none
 | .nils,.sl _ _ _ _=>bif E9p (V0 T t) 2 then some false else none
 | .sle _ _ _ _,.nils=>bif E9p (V0 T t) 2 then some false else none
 | .nilm,.map _=>bif E9p (V0 T t) 3 then some false else none
 |_,_=>none
def D8f(T:F7)(t:Nat)(a b:VV):Option Bool:=
 match a,b with
 | .iface tx vx,.iface ty vy=>bif E9p (V0 T t) 0 then
  bif E9p tx ty then(match D6 T tx with
   |some d=>bif A9b d.desc&&W7 d.desc vx then eqK vx vy else none
   |none=>none)
  else some false
   else none
 |_,_=>none
def E3j(T:F7)(N G:Nat)(f:Tr VV)(op:BinOp)(t:Nat)(x y:Operand):Option VV:=
 match evO N G f x with
 |some a=>(match evO N G f y with
  |some b=>(match op with
   | .eql=>(match B3p T t (isC x||isC y) a b with|some r=>some (.bool r)|none=>(match D8f T t a b with|some r=>some (.bool r)|none=>none))
   | .neq=>(match B3p T t (isC x||isC y) a b with|some r=>some (.bool (!r))|none=>(match D8f T t a b with|some r=>some (.bool (!r))|none=>none))
   |_=>none)
  |none=>none)
 |none=>none
theorem A0x(hT:T.ok P){t k:Nat}(h:E9p (V0 T t) k=true)(hk:k<4):(k=0∧∃a,P.underlying t=some (.interface a))∨(k=1∧∃a b c,P.underlying t=some (.func a b c))∨(k=2∧∃a,P.underlying t=some (.slice a))∨(k=3∧∃a b,P.underlying t=some (.map a b)):=by
 have h:=E9m h;unfold V0 at h;split at h
 ·rename_i ht;subst h;exact .inl ⟨rfl,_,(B6 hT ht).und⟩
 ·rename_i ht;subst h;exact .inr (.inl ⟨rfl,_,_,_,(B6 hT ht).und⟩)
 ·rename_i ht;subst h;exact .inr (.inr (.inl ⟨rfl,_,(B6 hT ht).und⟩))
 ·rename_i ht;subst h;exact .inr (.inr (.inr ⟨rfl,_,_,(B6 hT ht).und⟩))
 ·omega
theorem E6h(hT:T.ok P){t:Nat}{a b:VV}{r:Bool}(h:D8f T t a b=some r)(d:Nat)(w:World):(Op.equalIn (d+1+1) t (C2 ρ a) (C2 ρ b)).run P w=.ok r w:=by
 unfold D8f at h;split at h
 ·rename_i tx vx ty vy;cases hk:E9p (V0 T t) 0 with
  |false=>rw[hk] at h;cases h
  |true=>
  rw[hk] at h;simp only[cond_true] at h;rcases A0x hT hk (by omega) with⟨_,q,hu⟩|⟨e,_⟩|⟨e,_⟩|⟨e,_⟩
  ·cases hxy:E9p tx ty with
   |false=>
    rw[hxy] at h;cases h;have hne:tx≠ty:=fun e=>by subst e;simp at hxy
    simp[C2,Op.equalIn,run_underlying hu,hne]
   |true=>
    have:=E9m hxy
    subst this;rw[hxy] at h;simp only[cond_true] at h;split at h
    ·rename_i de hde;cases hb:(A9b de.desc&&W7 de.desc vx) with
     |false=>rw[hb] at h;cases h
     |true=>
     rw[hb] at h;simp only[cond_true] at h;simp only[E9j] at hb;have u2:=(B6 hT hde).und;obtain⟨ti,z,hi,_⟩:=(B6 hT hde).info;have hcmp:=(A6z hT hde).2.2.1 ti hi hb.1
     have key:(Op.equalIn (d+1) tx (C2 ρ vx) (C2 ρ vy)).run P w=.ok r w:=by
      obtain⟨_,hb2⟩:=hb;unfold eqK at h;split at h
      ·rename_i k1 n1 k2 n2;cases hd:decide (k1=k2) with
       |false=>rw[hd] at h;cases h
       |true=>
        rw[hd] at h;cases h;have hkk:k1=k2:=by simpa using hd
        subst hkk;cases hdd:de.desc<;>rw[hdd] at hb2<;>first|(cases hb2;done)|skip
        rw[hdd] at u2;simp[C2,Op.equalIn,run_underlying u2];rfl
      ·cases h;cases hdd:de.desc<;>rw[hdd] at hb2<;>first|(cases hb2;done)|skip
       rw[hdd] at u2;simp only[C2];rw[B6j];simp[Op.equalIn,run_underlying u2,A7v]
      ·cases h;cases hdd:de.desc<;>rw[hdd] at hb2<;>first|(cases hb2;done)|skip
       rw[hdd] at u2;simp[C2,Op.equalIn,run_underlying u2]
      ·cases h
     have e1:C2 ρ (.iface tx vx)=.iface tx (C2 ρ vx):=by simp only[C2]
     have e2:C2 ρ (.iface tx vy)=.iface tx (C2 ρ vy):=by simp only[C2]
     rw[e1,e2,Op.equalIn];simp[run_underlying hu,E0 hi,hcmp,key]
    ·cases h
  ·cases e
  ·cases e
  ·cases e
 ·cases h
theorem D9p(hT:T.ok P){t:Nat}{c:Bool}{a b:VV}{r:Bool}(h:B3p T t c a b=some r)(d:Nat)(w:World):(Op.equalIn (d+1) t (C2 ρ a) (C2 ρ b)).run P w=.ok r w:=by
 unfold B3p at h;split at h
 ·cases hb:(c&&E9p (V0 T t) 0) with
  |false=>rw[hb] at h;cases h
  |true=>
   rw[hb] at h;cases h;simp only[E9j] at hb;rcases A0x hT hb.2 (by omega) with⟨_,q,hu⟩|⟨e,_⟩|⟨e,_⟩|⟨e,_⟩
   ·simp[C2,Op.equalIn,run_underlying hu]
   all_goals cases e
 all_goals first|(cases h;done)|skip
 all_goals first
  |(cases hb:E9p (V0 T t) 0 with
    |false=>rw[hb] at h;cases h
    |true=>
     rw[hb] at h;cases h;rcases A0x hT hb (by omega) with⟨_,q,hu⟩|⟨e,_⟩|⟨e,_⟩|⟨e,_⟩
     ·simp[C2,Op.equalIn,run_underlying hu]
     all_goals cases e)
  |(cases hb:E9p (V0 T t) 1 with
    |false=>rw[hb] at h;cases h
    |true=>
     rw[hb] at h;cases h;rcases A0x hT hb (by omega) with⟨e,_⟩|⟨_,q1,q2,q3,hu⟩|⟨e,_⟩|⟨e,_⟩
     ·cases e
     ·simp[C2,Op.equalIn,run_underlying hu]
     all_goals cases e)
  |(cases hb:E9p (V0 T t) 2 with
    |false=>rw[hb] at h;cases h
    |true=>
     rw[hb] at h;cases h;rcases A0x hT hb (by omega) with⟨e,_⟩|⟨e,_⟩|⟨_,q,hu⟩|⟨e,_⟩
     ·cases e
     ·cases e
     ·simp[C2,Op.equalIn,run_underlying hu]
     all_goals cases e)
  |(cases hb:E9p (V0 T t) 3 with
    |false=>rw[hb] at h;cases h
    |true=>
     rw[hb] at h;cases h;rcases A0x hT hb (by omega) with⟨e,_⟩|⟨e,_⟩|⟨e,_⟩|⟨_,q1,q2,hu⟩
     ·cases e
     ·cases e
     ·cases e
     ·simp[C2,Op.equalIn,run_underlying hu])
theorem B4b{op:BinOp}{t:Nat}{x y:Operand}{a b:VV}{r:Bool}(h:B3p T t (isC x||isC y) a b=some r)(w:World):(eqGuard op t x y (C2 ρ a) (C2 ρ b)).run P w=.ok () w:=by
 unfold B3p at h;split at h
 ·cases hc:(isC x||isC y) with
  |false=>rw[hc] at h;cases h
  |true=>
   simp only[Bool.or_eq_true] at hc
   have hcc:(∃v,x=.const v)∨∃v,y=.const v:=by
    rcases hc with hc|hc
    ·left;cases x<;>first|exact⟨_,rfl⟩|(cases hc;done)
    ·right;cases y<;>first|exact⟨_,rfl⟩|(cases hc;done)
   rcases hcc with⟨v,rfl⟩|⟨v,rfl⟩
   ·cases op<;>simp[eqGuard,C2]
   ·cases op<;>cases x<;>simp[eqGuard,C2]
 all_goals first|(cases h;done)|skip
 all_goals(cases op<;>simp[eqGuard,C2])
theorem C9h(hT:T.ok P){t t2:Nat}{x y:Operand}{a b:VV}{r:Bool}(hx:ev N fr x=C2 ρ a)(hy:ev N fr y=C2 ρ b)(h:B3p T t (isC x||isC y) a b=some r):
 PV P N fr ⟨dst,.binOp .eql t x y t2,ty,pos,B4,gd⟩ (.bool r)∧PV P N fr ⟨dst,.binOp .neq t x y t2,ty,pos,B4,gd⟩ (.bool (!r)):=by
 have e1:∀w,(Op.equal t (C2 ρ a) (C2 ρ b)).run P w=.ok r w:=fun w=>D9p hT h 9999 w
 have e3:(∀w,(binOp .eql t (C2 ρ a) (C2 ρ b)).run P w=((Op.equal t (C2 ρ a) (C2 ρ b)).run P w).andThen fun q w'=>.ok (.bool q) w')∧∀w,(binOp .neq t (C2 ρ a) (C2 ρ b)).run P w=((Op.equal t (C2 ρ a) (C2 ρ b)).run P w).andThen fun q w'=>.ok (.bool (!q)) w':=by
  clear e1 hx hy;unfold B3p at h;split at h;all_goals first|(cases h;done)|skip
  all_goals(simp only[C2];constructor<;>(intro w;simp[binOp]))
 constructor
 ·unfold PV;intro w;have e2:=B4b (ρ:=ρ) (op:=.eql) h w (P:=P);simp[execOp,hx,hy,e2,e3.1,e1]
 ·unfold PV;intro w;have e2:=B4b (ρ:=ρ) (op:=.neq) h w (P:=P);simp[execOp,hx,hy,e2,e3.2,e1]
theorem D6r(hT:T.ok P){t t2:Nat}{x y:Operand}{a b:VV}{r:Bool}(hx:ev N fr x=C2 ρ a)(hy:ev N fr y=C2 ρ b)(h:D8f T t a b=some r):
 PV P N fr ⟨dst,.binOp .eql t x y t2,ty,pos,B4,gd⟩ (.bool r)∧PV P N fr ⟨dst,.binOp .neq t x y t2,ty,pos,B4,gd⟩ (.bool (!r)):=by
 have e1:∀w,(Op.equal t (C2 ρ a) (C2 ρ b)).run P w=.ok r w:=fun w=>E6h hT h 9998 w
 unfold D8f at h;split at h
 ·simp only[C2] at hx hy e1;constructor<;>(unfold PV;intro w;simp[execOp,hx,hy,eqGuard,binOp,e1])
 ·cases h
theorem E6d(hT:T.ok P)(hS:G5 ρ D f fr)(hG:Glob Γ ρ D G){op:BinOp}{t t2:Nat}{x y:Operand}{v:VV}(he:E3j T N G f op t x y=some v):v.lt D∧PV P N fr ⟨dst,.binOp op t x y t2,ty,pos,B4,gd⟩ (C2 ρ v):=by
 unfold E3j at he;split at he
 ·rename_i a ha;split at he
  ·rename_i b hb;split at he
   ·split at he
    ·rename_i r hr;cases he;exact⟨by simp only[VV.lt],by simp only[C2];exact(C9h hT (D5 hS hG ha).2 (D5 hS hG hb).2 hr).1⟩
    ·split at he
     ·rename_i r hr;cases he;exact⟨by simp only[VV.lt],by simp only[C2];exact(D6r hT (D5 hS hG ha).2 (D5 hS hG hb).2 hr).1⟩
     ·cases he
   ·split at he
    ·rename_i r hr;cases he;exact⟨by simp only[VV.lt],by simp only[C2];exact(C9h hT (D5 hS hG ha).2 (D5 hS hG hb).2 hr).2⟩
    ·split at he
     ·rename_i r hr;cases he;exact⟨by simp only[VV.lt],by simp only[C2];exact(D6r hT (D5 hS hG ha).2 (D5 hS hG hb).2 hr).2⟩
     ·cases he
   ·cases he
  ·cases he
 ·cases he
def B5z(mx:Bool)(p:Int):List VV→Option Int
 |[]=>some p
 | .int _ q::l=>B5z mx (bif mx then(if q > p then q else p) else(if q<p then q else p)) l
 |_=>none
def evMM(T:F7)(b:Builtin)(ts:List Nat)(vs:List VV):Option VV:=
 match b with
 | .max=>(match vs with
   | .int k p::l=>(match B5z true p l with
     |some r=>some (.int k r)
     |none=>none)
   |_=>none)
 | .min=>(match vs with
   | .int k p::l=>(match B5z false p l with
     |some r=>some (.int k r)
     |none=>none)
   |_=>none)
 | .cap=>(match vs,ts with
   |[.sl _ _ _ (.fix c)],[t]=>bif E9p (V0 T t) 2 then some (.int .i64 (.ofNat c)) else none
   |[.nils],[t]=>bif E9p (V0 T t) 2 then some (.int .i64 0) else none
   |_,_=>none)
 |_=>none
theorem C1g{k:IntKind}{w:World}:∀{l:List VV}{p r:Int},B5z true p l=some r→((C3 ρ l).foldlM Builtin.max2 (.int k p)).run P w=.ok (.int k r) w
 |[],p,r,h=>by cases h;simp[C3]
 |v::l,p,r,h=>by
  unfold B5z at h;split at h
  ·rename_i hq;cases hq
  ·rename_i k' q l' hq;cases hq
   have:=C1g (k:=k) (w:=w) h
   simp only[C3,C2,List.foldlM_cons,Builtin.max2];simpa using this
  ·cases h
theorem C1f{k:IntKind}{w:World}:∀{l:List VV}{p r:Int},B5z false p l=some r→((C3 ρ l).foldlM Builtin.min2 (.int k p)).run P w=.ok (.int k r) w
 |[],p,r,h=>by cases h;simp[C3]
 |v::l,p,r,h=>by
  unfold B5z at h;split at h
  ·rename_i hq;cases hq
  ·rename_i k' q l' hq;cases hq
   have:=C1f (k:=k) (w:=w) h
   simp only[C3,C2,List.foldlM_cons,Builtin.min2];simpa using this
  ·cases h
theorem evMM_ok(hT:T.ok P){b:Builtin}{args:Array Operand}{ts:Array TypeId}{vs:List VV}{v:VV}(ha:args.toList.map (ev N fr)=C3 ρ vs)(h:evMM T b ts.toList vs=some v):v.lt D∧PV P N fr ⟨dst,.call ⟨.builtin b,args,ts⟩,ty,pos,B4,gd⟩ (C2 ρ v):=by
 have e2:args.map (ev N fr)=(C3 ρ vs).toArray:=by rw[←ha];exact F1w (by simp)
 unfold evMM at h;split at h
 ·split at h
  ·rename_i k p l;split at h
   ·rename_i r hr;cases h;refine⟨by simp only[VV.lt],?_⟩;unfold PV;intro w
    have:=C1g (ρ:=ρ) (P:=P) (k:=k) (w:=w) hr
    simp[execOp,resolve,e2,invoke,builtin,Builtin.max_,C3,C2,this]
   ·cases h
  ·cases h
 ·split at h
  ·rename_i k p l;split at h
   ·rename_i r hr;cases h;refine⟨by simp only[VV.lt],?_⟩;unfold PV;intro w
    have:=C1f (ρ:=ρ) (P:=P) (k:=k) (w:=w) hr
    simp[execOp,resolve,e2,invoke,builtin,Builtin.min_,C3,C2,this]
   ·cases h
  ·cases h
 ·split at h
  ·rename_i b o l c t hts;cases hb:E9p (V0 T t) 2 with
   |false=>rw[hb] at h;cases h
   |true=>
    rw[hb] at h;cases h;refine⟨by simp only[VV.lt],?_⟩;have et:ts=#[t]:=F1w hts;rcases A0x hT hb (by omega) with⟨e,_⟩|⟨e,_⟩|⟨_,q,hu⟩|⟨e,_⟩
    ·cases e
    ·cases e
    ·unfold PV;intro w;simp[execOp,resolve,e2,et,invoke,builtin,Builtin.cap_,C3,C2,run_underlying hu,Loc.capOf,goInt]
    ·cases e
  ·rename_i t hts;cases hb:E9p (V0 T t) 2 with
   |false=>rw[hb] at h;cases h
   |true=>
    rw[hb] at h;cases h;refine⟨by simp only[VV.lt],?_⟩;have et:ts=#[t]:=F1w hts;rcases A0x hT hb (by omega) with⟨e,_⟩|⟨e,_⟩|⟨_,q,hu⟩|⟨e,_⟩
    ·cases e
    ·cases e
    ·unfold PV;intro w;simp[execOp,resolve,e2,et,invoke,builtin,Builtin.cap_,C3,C2,run_underlying hu,goInt]
    ·cases e
  ·cases h
 ·cases h
end
end
noncomputable section
open Go Go.Eng
section
variable{Γ:F7→I4→Code→Prop}{ρ:Loc}{D:J8}{n N G:Nat}{f:Tr VV}{h:VH}{fr:Fr}{P:Program}{T:F7}{i:Imm}{L:SH}{dst:Option Nat}{ty:TypeId}{pos:String}{B4:Array Edge}{gd:Option (Nat×Bool)}
def B7n(T:F7)(N G:Nat)(f:Tr VV)(t:Nat)(x:Operand)(h:VH)(n:Nat):Option (VV×VO):=
 match D6 T t with
 |some ⟨.map _ _,_,_,_⟩=>(match evO N G f x with
  |some .nilm=>some (.ptr n 0,.miter none 0 [] 0)
  |some (.map b)=>(match get b h with
   |some (_,.map _ c)=>some (.ptr n 0,.miter (some b) c [] c)
   |_=>none)
  |_=>none)
 |some ⟨.string,_,_,_⟩=>(match evO N G f x with
  |some (.str s)=>some (.ptr n 0,.siter s 0)
  |_=>none)
 |_=>none
theorem D0v(hT:T.ok P)(hS:G5 ρ D f fr)(hG:Glob Γ ρ D G)(hL:X7 ρ D h i L)(hD:¬D n){t:Nat}{x:Operand}{v:VV}{vo:VO}(he:B7n T N G f t x h n=some (v,vo)):P3 P N ⟨dst,.range t x,ty,pos,B4,gd⟩ fr i L (B9w ρ D n v vo i L):=by
 unfold B7n at he;split at he
 ·rename_i kt et _ _ _ ht;have u1:=(B6 hT ht).und;simp only at u1;split at he
  ·rename_i hx;cases he;have hx':=(D5 hS hG hx).2;simp only[C2] at hx';refine A4t (mk:=fun b=>.pointer (some ⟨b,0,none⟩)) (ob:=.mapIter none 0 #[] 0) (c:=0) (F5 fun w hw=>?_) (by simp only[VO.lt]) (by simp[VV.lt,J8.add]) (fun b=>by simp[V3]) fun b=>by simp[C2,Loc.add]
   refine⟨.pointer (some ⟨w.heap.size,0,none⟩),w.alloc (.mapIter none 0 #[] 0),i,_,?_,Imm.le.refl i,hw.push rfl rfl rfl rfl,w.heap.size,rfl,rfl,rfl⟩;simp[execOp,hx',Instr.range,run_underlying u1,run_newObj_alloc]
  ·rename_i b hx;split at he
   ·rename_i fz es c hb;cases he;obtain⟨hlt,hx'⟩:=D5 hS hG hx;simp only[C2] at hx';simp only[VV.lt] at hlt;obtain⟨_,_,o,h3,h4⟩:=hL.has hb;have ho:o=.map (N5 ρ es).toArray c:=h3;subst ho;have hat:∀b' c',(ρ.add n b' c').at_ b=ρ.at_ b:=fun b' c'=>(ρ.add_ext hD b' c').at_ b hlt
    refine A4t (mk:=fun b=>.pointer (some ⟨b,0,none⟩)) (ob:=.mapIter (some (ρ.at_ b)) c #[] c) (c:=0) (F5 fun w hw=>?_) (by simp only[VO.lt];exact .inl hlt) (by simp[VV.lt,J8.add]) (fun b'=>by simp[V3,hat]) fun b=>by simp[C2,Loc.add]
    have g1:(getObj (ρ.at_ b)).run P w=.ok (.map (N5 ρ es).toArray c) w:=M9 (h4.block hw);refine⟨.pointer (some ⟨w.heap.size,0,none⟩),w.alloc (.mapIter (some (ρ.at_ b)) c #[] c),i,_,?_,Imm.le.refl i,hw.push rfl rfl rfl rfl,w.heap.size,rfl,rfl,rfl⟩;simp[execOp,hx',Instr.range,run_underlying u1,g1,run_newObj_alloc]
   ·cases he
  ·cases he
 ·rename_i _ _ _ ht;have u1:=(B6 hT ht).und;simp only at u1;split at he
  ·rename_i s hx;cases he;have hx':=(D5 hS hG hx).2;simp only[C2] at hx';refine A4t (mk:=fun b=>.pointer (some ⟨b,0,none⟩)) (ob:=.stringIter (bytesOf s) 0) (c:=0) (F5 fun w hw=>?_) (by simp only[VO.lt]) (by simp[VV.lt,J8.add]) (fun b=>by simp[V3]) fun b=>by simp[C2,Loc.add]
   refine⟨.pointer (some ⟨w.heap.size,0,none⟩),w.alloc (.stringIter (bytesOf s) 0),i,_,?_,Imm.le.refl i,hw.push rfl rfl rfl rfl,w.heap.size,rfl,rfl,rfl⟩;simp[execOp,hx',Instr.range,run_underlying u1,run_newObj_alloc]
  ·cases he
 ·cases he
def C7z(es:VEs)(seen:List Nat):VEs:=es.filter fun e=> !hasK seen e.2.2
where hasK:List Nat→Nat→Bool
 |[],_=>false
 |a::l,b=>E9p a b||hasK l b
theorem E5y{l:List Nat}{b:Nat}:C7z.hasK l b=l.contains b:=by
 induction l with
 |nil=>rfl
 |cons a l ih=>
  simp only[C7z.hasK,ih,List.contains_cons];congr 1;cases h:E9p a b with
  |true=>have:=E9m h;subst this;simp
  |false=>
   have:b≠a:=fun e=>by subst e;simp at h
   simpa using this
def D2f(N G:Nat)(f:Tr VV)(x:Operand)(isS:Bool)(h:VH)(n:Nat):Option Eff:=
 match evO N G f x with
 |some (.ptr k 0)=>(match get k h,isS with
  |some (false,.miter none _ _ _),false=>some ⟨some (.tup [.bool false]),h,n⟩
  |some (false,.miter (some m) since seen last),false=>(match get m h with
   |some (_,.map es c)=>bif es.all (fun e=>F0e e.2.2 since)&&F0n since last then
    (match C7z es seen with
    |[]=>some ⟨some (.tup [.bool false]),h,n⟩
    |[e]=>some ⟨some (.tup [.bool true,e.1,e.2.1]),set k (false,.miter (some m) since (seen++[e.2.2]) c) h,n⟩
    |_=>none) else none
   |_=>none)
  |some (false,.siter s p),true=>(match nth s p with
   |some a=>bif F0e (F1m a 256) 128 then some ⟨some (.tup [.bool true,.int .i64 (.ofNat p),.int .i32 (.ofNat (F1m a 256))]),set k (false,.siter s (p+1)) h,n⟩ else none
   |none=>some ⟨some (.tup [.bool false]),h,n⟩)
  |_,_=>none)
 |_=>none
theorem D9j(hS:G5 ρ D f fr)(hG:Glob Γ ρ D G)(hL:X7 ρ D h i L){x:Operand}{isS:Bool}{e:Eff}(he:D2f N G f x isS h n=some e):P3 P N ⟨dst,.next x isS,ty,pos,B4,gd⟩ fr i L (G3 ρ D n e):=by
 unfold D2f at he;split at he
 ·rename_i k hx;have hx':=(D5 hS hG hx).2;simp only[C2] at hx';split at he
  ·rename_i s0 s1 s2 hk;cases he;obtain⟨ob,j,ho,hj⟩:=X7.own hL hk;have ho':ob=.mapIter none s0 s1.toArray s2:=ho;subst ho';refine M4 (v:=C2 ρ (.tup [.bool false])) (fun w hw=>?_) (Y6 hL (by simp[VV.lt,C5]));have hi:=hw.own _ (E9g hj);simp only at hi;have g1:(getObj (ρ.at_ k)).run P w=.ok (.mapIter none s0 s1.toArray s2) w:=by simp[getObj,Sem.run,hi]
   simp[execOp,hx',Instr.next,g1,C2,C3]
  ·rename_i m since seen last hk;split at he
   ·rename_i fz es c hm;cases hc:(es.all (fun e=>F0e e.2.2 since)&&F0n since last) with
    |false=>rw[hc] at he;cases he
    |true=>
    rw[hc] at he;simp only[cond_true,E9j] at he hc;obtain⟨hc1,hc2⟩:=hc;obtain⟨ob,j,ho,hj⟩:=X7.own hL hk;have ho':ob=.mapIter (some (ρ.at_ m)) since seen.toArray last:=ho;subst ho';obtain⟨_,hmlt,o,h3,h4⟩:=hL.has hm;have ho2:o=.map (N5 ρ es).toArray c:=h3;subst ho2
    have hold:∀x∈(N5 ρ es).toArray.toList,x.born<since:=fun x hx=>by
     simp only[N5,List.toList_toArray,F1k] at hx;obtain⟨e,he,rfl⟩:=hx
     have:=F0c.1 hc1 e he
     simpa [F1j] using this
    have hleft:(leftOf (N5 ρ es).toArray seen.toArray).toList=N5 ρ (C7z es seen):=by
     unfold leftOf C7z N5;simp only[Array.toList_filter,List.toList_toArray];rw[List.filter_map];congr 1;refine List.filter_congr fun x _=>?_
     simp only[Function.comp,E5y];simp
    have run:∀w,St i L w→_:=fun w hw=>run_next_at (P:=P) w ty (ρ.at_ k) (ρ.at_ m) since last seen.toArray (N5 ρ es).toArray c (hw.own _ (E9g hj)) (h4.block hw) hold (E9w hc2)
    split at he
    ·rename_i hlv;cases he;refine M4 (v:=C2 ρ (.tup [.bool false])) (fun w hw=>?_) (Y6 hL (by simp[VV.lt,C5]));rcases run w hw with⟨_,hr⟩|⟨e,he,_⟩
     ·simp only[execOp,hx'];simp[hr,C2,C3]
     ·rw[hleft,hlv] at he;cases he
    ·rename_i e0 hlv;cases he;refine F5 fun w hw=>?_
     rcases run w hw with⟨hz,_⟩|⟨e,he,w1,hal,hr⟩
     ·rw[←Array.length_toList,hleft,hlv] at hz;cases hz
     ·rw[hleft,hlv] at he;simp only[N5,F0w,List.map_nil,List.mem_singleton] at he;subst he
      have hw1:St i L w1:=by
       rcases hal with rfl|rfl
       ·exact hw
       ·exact hw.drew
      have he0:e0∈es:=by
       have:e0∈C7z es seen:=by rw[hlv];simp
       unfold C7z at this;exact(List.mem_filter.1 this).1
      have hsp:(seen.toArray.push e0.2.2)=(seen++[e0.2.2]).toArray:=by simp
      refine⟨_,_,i,_,by simp only[execOp,hx'];simp[hr];exact⟨rfl,rfl⟩,Imm.le.refl i,hw1.setBlock _ hj,ρ,Ext.refl D ρ,E9q n,?_,fun v hv=>?_⟩
      ·refine LayP.mono (X7.put (vo':=.miter (some m) since (seen++[e0.2.2]) c) hL hk hj ?_ ?_) (D.le_upto n n)
       ·simp only[VO.lt];exact(hL.ok _ _ _ hm).1
       ·simp[V3]
      ·cases hv;refine⟨?_,by simp[C2,C3]⟩;simp only[VV.lt,C5];exact⟨trivial,VV.lt_mono (D.le_upto n n) _ (hmlt e0 he0).1,VV.lt_mono (D.le_upto n n) _ (hmlt e0 he0).2,trivial⟩
    ·cases he
   ·cases he
  ·rename_i s p hk;obtain⟨ob,j,ho,hj⟩:=X7.own hL hk;have ho':ob=.stringIter (bytesOf s) p:=ho;subst ho';have hlen:(bytesOf s).size=s.length:=by unfold bytesOf;show(s.map F0d).toArray.size=_;simp
   split at he
   ·rename_i a ha;cases hc:F0e (F1m a 256) 128 with
    |false=>rw[hc] at he;cases he
    |true=>
    rw[hc] at he;cases he;rw[W5] at ha;have hp:p<s.length:=(E9e.1 ha).1;have hps:p<(bytesOf s).size:=by rw[hlen];exact hp
    have hget:((bytesOf s)[p]'hps).toNat=a % 256:=by
     have h1:s[p]=a:=(E9e.1 ha).2
     have h2:(bytesOf s).data[p]?=some (F0d a):=by
      show((s.map F0d).toArray)[p]?=_
      rw[List.getElem?_toArray,F0k,ha];rfl
     have h3:(bytesOf s).data[p]?=some ((bytesOf s)[p]'hps):=Array.getElem?_eq_getElem (show p<(bytesOf s).data.size from hps);rw[h3] at h2;rw[Option.some.inj h2];simp
    have ha':a % 256<128:=by have:F1m a 256<128:=by simpa [F1j] using hc
                             exact this
    have hdec:=decode_ascii (bytesOf s) p hps (by rw[hget];exact ha');rw[hget] at hdec;refine F5 fun w hw=>?_
    have hi:=hw.own _ (E9g hj);simp only at hi;have g1:(getObj (ρ.at_ k)).run P w=.ok (.stringIter (bytesOf s) p) w:=by simp[getObj,Sem.run,hi]
    have g2:(setObj (ρ.at_ k) (.stringIter (bytesOf s) (p+1))).run P w=.ok () (ChangeMaps.setBlock w (ρ.at_ k) (.stringIter (bytesOf s) (p+1))):=by simp[setObj,Sem.run,hi];rfl
    refine⟨.tuple #[.bool true,goInt p,.int .i32 ((a % 256:Nat):Int)],_,i,_,?_,Imm.le.refl i,hw.setBlock (.stringIter (bytesOf s) (p+1)) hj,ρ,Ext.refl D ρ,E9q n,?_,fun v hv=>?_⟩
    ·simp[execOp,hx',Instr.next,g1,hps,hdec,g2,goInt]
    ·exact LayP.mono (X7.put (vo':=.siter s (p+1)) hL hk hj (by simp only[VO.lt]) (by simp[V3])) (D.le_upto n n)
    ·cases hv;exact⟨by simp[VV.lt,C5],by simp only[C2,C3];rfl⟩
   ·rename_i ha;cases he;rw[W5] at ha
    have hp:¬p<(bytesOf s).size:=by
     rw[hlen];intro h;rw[E9v h] at ha;cases ha
    refine M4 (v:=C2 ρ (.tup [.bool false])) (fun w hw=>?_) (Y6 hL (by simp[VV.lt,C5]));have hi:=hw.own _ (E9g hj);simp only at hi;have g1:(getObj (ρ.at_ k)).run P w=.ok (.stringIter (bytesOf s) p) w:=by simp[getObj,Sem.run,hi]
    simp[execOp,hx',Instr.next,g1,hp,C2,C3]
  ·cases he
 ·cases he
def C4a(N G:Nat)(f:Tr VV)(x:Operand)(h:VH):Option VV:=
 match evO N G f x with
 |some (.ptr k 0)=>(match get k h with
  |some (false,.miter (some m) _ seen last)=>(match get m h with
   |some (_,.map es c)=>(match es,seen.reverse with
    |[e],b::_=>bif E9p e.2.2 b&&E9p c last then some (.tup [e.1,e.2.1]) else none
    |_,_=>none)
   |_=>none)
  |_=>none)
 |_=>none
theorem D3k(hS:G5 ρ D f fr)(hG:Glob Γ ρ D G)(hL:X7 ρ D h i L){x:Operand}{v:VV}(he:C4a N G f x h=some v):v.lt D∧LV P N fr i L ⟨dst,.entry x,ty,pos,B4,gd⟩ (C2 ρ v):=by
 unfold C4a at he;split at he
 ·rename_i k hx;have hx':=(D5 hS hG hx).2;simp only[C2] at hx';split at he
  ·rename_i m since seen last hk;split at he
   ·rename_i fz es c hm;split at he
    ·rename_i e b sr hsr;cases hc:(E9p e.2.2 b&&E9p c last) with
     |false=>rw[hc] at he;cases he
     |true=>
     rw[hc] at he;cases he;simp only[E9j] at hc;have hc1:=E9m hc.1;have hc2:=E9m hc.2;subst hc2;obtain⟨ob,j,ho,hj⟩:=X7.own hL hk;have ho':ob=.mapIter (some (ρ.at_ m)) since seen.toArray c:=ho;subst ho';obtain⟨_,hmlt,o,h3,h4⟩:=hL.has hm;have ho2:o=.map (N5 ρ [e]).toArray c:=h3;subst ho2
     have hse:seen=sr.reverse++[e.2.2]:=by
      have:=congrArg List.reverse hsr
      simpa [hc1] using this
     refine⟨?_,?_⟩
     ·simp only[VV.lt,C5];exact⟨(hmlt e (by simp)).1,(hmlt e (by simp)).2,trivial⟩
     ·unfold LV;intro w hw;have hi:=hw.own _ (E9g hj);simp only at hi
      have hi2:w.heap[ρ.at_ k]?=some (.mapIter (some (ρ.at_ m)) since (sr.reverse.toArray.push e.2.2) c):=by
       rw[hi,hse];simp
      have h1:=run_entry_at (P:=P) w (ρ.at_ k) (ρ.at_ m) since sr.reverse.toArray (N5 ρ [e]).toArray c ⟨C2 ρ e.1,C2 ρ e.2.1,e.2.2⟩ hi2 (h4.block hw) (by simp[N5]) (by simp[N5]);simp only[execOp,hx'];simp[h1,C2,C3]
    ·cases he
   ·cases he
  ·cases he
 ·cases he
end
end
noncomputable section
open Go Go.Eng
section
variable{Γ:F7→I4→Code→Prop}{ρ:Loc}{D:J8}{n N G:Nat}{f:Tr VV}{h:VH}{fr:Fr}{P:Program}{T:F7}{i:Imm}{L:SH}{dst:Option Nat}{ty:TypeId}{pos:String}{B4:Array Edge}{gd:Option (Nat×Bool)}
def B7g(T:F7)(N G:Nat)(f:Tr VV)(h:VH)(t:Nat)(x:Operand)(lo hi:Option Operand):Option VV:=
 match A3v T t,evO N G f x with
 |some _,some .nils=>(match bdV N G f 0 lo,bdV N G f 0 hi with
  |some 0,some 0=>some .nils
  |_,_=>none)
 |some sz,some (.sl b o len (.rest i))=>(match bdV N G f 0 lo,bdV N G f len hi with
  |some l,some hh=>bif F0n l hh&&A5z h b (.rest i) hh then
   bif F0e l hh||A5z h b (.rest i) (l+1) then some (.sl b (o+l*sz) (hh-l) (.rest (i+l)))
   else bif E9p l 0 then some (.sl b o 0 (.rest i)) else some (.sle b o (o+l*sz) (i+l))
    else none
  |_,_=>none)
 |some _,some (.sle b o o' i)=>(match bdV N G f 0 lo,bdV N G f 0 hi with
  |some 0,some 0=>some (.sle b o o' i)
  |_,_=>none)
 |_,_=>none
theorem D2z(hT:T.ok P){t sz:Nat}(hs:A3v T t=some sz)(lo hi:Option Value)(hlo:lo=none∨∃k,lo=some (.int k 0))(hhi:hi=none∨∃k,hi=some (.int k 0))(w:World):
 (F1a t (.slice none 0 0) lo hi none).run P w=.ok (.slice none 0 0) w:=by
 obtain⟨e,i,z,x',g1,g2,g3,g4,_⟩:=A0h hT hs;rcases hlo with rfl|⟨k1,rfl⟩<;>rcases hhi with rfl|⟨k2,rfl⟩
 all_goals
  simp[F1a,F1v,F0v,F1c,asIntOf,run_underlying g1,sizeOf,E0 g2]
theorem D0p(hT:T.ok P)(hS:G5 ρ D f fr)(hG:Glob Γ ρ D G)(hL:X7 ρ D h i L){t:Nat}{x:Operand}{lo hi:Option Operand}{v:VV}(he:B7g T N G f h t x lo hi=some v):v.lt D∧PV P N fr ⟨dst,.slice t x lo hi none,ty,pos,B4,gd⟩ (C2 ρ v):=by
 unfold B7g at he;split at he
 ·rename_i sz hsz hx;split at he
  ·rename_i hl hh;cases he;refine⟨by simp only[VV.lt],?_⟩;have hx':=(D5 hS hG hx).2;simp only[C2] at hx'⊢;unfold PV;intro w
   have e1:lo.map (ev N fr)=none∨∃k,lo.map (ev N fr)=some (.int k 0):=by
    rcases W9 hS hG hl with⟨rfl,_⟩|⟨y,k,rfl,h⟩
    ·exact .inl rfl
    ·exact .inr ⟨k,by simp[h]⟩
   have e2:hi.map (ev N fr)=none∨∃k,hi.map (ev N fr)=some (.int k 0):=by
    rcases W9 hS hG hh with⟨rfl,_⟩|⟨y,k,rfl,h⟩
    ·exact .inl rfl
    ·exact .inr ⟨k,by simp[h]⟩
   have:=D2z (P:=P) hT hsz _ _ e1 e2 w
   simp only[execOp,hx',Option.map_none,Sem.run_bind,this,Result.andThen,Sem.run_pure]
  ·cases he
 ·rename_i sz b o len j hsz hx;split at he
  ·rename_i l hh hl hhi;obtain⟨hlt,hx'⟩:=D5 hS hG hx;simp only[VV.lt] at hlt;simp only[C2,Loc.capOf] at hx';cases hc:(F0n l hh&&A5z h b (.rest j) hh) with
   |false=>rw[hc] at he;cases he
   |true=>
   rw[hc] at he;simp only[cond_true,E9j] at he hc;have h1:=E9w hc.1;have h2:=A7f hL hc.2;simp only[Loc.capOf] at h2;have key:=B2r (P:=P) (dst:=dst) (ty:=ty) (pos:=pos) (B4:=B4) (gd:=gd) hT hx' hsz (W9 hS hG hl) (W9 hS hG hhi) h1 h2;unfold B5u at key;cases hq:(F0e l hh||A5z h b (.rest j) (l+1)) with
   |true=>
    rw[hq] at he;cases he;refine⟨by simp only[VV.lt];exact hlt,?_⟩
    have hne:ρ.cap b-j≠l:=by
     simp only[Bool.or_eq_true,F1j] at hq;rcases hq with hq|hq
     ·omega
     ·have:=A7f hL hq
      simp only[Loc.capOf] at this;omega
    rw[if_neg hne] at key;simp only[C2,Loc.capOf];rw[show ρ.cap b-(j+l)=ρ.cap b-j-l by omega];exact key
   |false=>
    rw[hq] at he;simp only[cond_false] at he
    have hlh:hh=l:=by
     simp only[Bool.or_eq_false_iff] at hq;have h3:=hq.1;cases h4:F0e l hh with
     |true=>rw[h4] at h3;cases h3
     |false=>
      have:¬l<hh:=fun h5=>by rw[←F1j,h4] at h5;cases h5
      omega
    subst hlh;cases h0:E9p hh 0 with
    |true=>
     rw[h0] at he;cases he
     have:=E9m h0
     subst this;refine⟨by simp only[VV.lt];exact hlt,?_⟩;simp only[C2,Loc.capOf];simpa using key
    |false=>
     rw[h0] at he;cases he;refine⟨by simp only[VV.lt];exact hlt,?_⟩;simp only[C2];rw[Nat.sub_self] at key;have e1:ρ.cap b-(j+hh)=ρ.cap b-j-hh:=by omega
     rw[e1];by_cases hz:ρ.cap b-j=hh
     ·rw[if_pos hz] at key;rw[if_pos (by omega)];exact key
     ·rw[if_neg hz] at key;rw[if_neg (by omega)];exact key
  ·cases he
 ·rename_i sz b o o' j hsz hx;split at he
  ·rename_i hl hhi;cases he;obtain⟨hlt,hx'⟩:=D5 hS hG hx;refine⟨hlt,?_⟩;simp only[C2] at hx'⊢;have key:=B2r (P:=P) (dst:=dst) (ty:=ty) (pos:=pos) (B4:=B4) (gd:=gd) hT hx' hsz (W9 hS hG hl) (W9 hS hG hhi) (E9q 0) (E9k _);unfold B5u at key;simpa using key
  ·cases he
 ·cases he
def B7k(T:F7)(N G:Nat)(f:Tr VV)(h:VH)(t:Nat)(x:Operand)(lo:Option Operand)(y z:Operand):Option VV:=
 match A3v T t,evO N G f x with
 |some _,some .nils=>(match bdV N G f 0 lo,bdV N G f 0 (some y),bdV N G f 0 (some z) with
  |some 0,some 0,some 0=>some .nils
  |_,_,_=>none)
 |some sz,some (.sl b o _ c)=>(match bdV N G f 0 lo,bdV N G f 0 (some y),bdV N G f 0 (some z) with
  |some l,some hh,some m=>bif F0n l hh&&F0n hh m&&A5z h b c m then some (.sl b (bif E9p m l then o else o+l*sz) (hh-l) (.fix (m-l))) else none
  |_,_,_=>none)
 |_,_=>none
theorem C9z(hT:T.ok P){t sz:Nat}(hs:A3v T t=some sz)(lo:Option Value)(k2 k3:IntKind)(hlo:lo=none∨∃k,lo=some (.int k 0))(w:World):
 (F1a t (.slice none 0 0) lo (some (.int k2 0)) (some (.int k3 0))).run P w=.ok (.slice none 0 0) w:=by
 obtain⟨e,i,z,x',g1,g2,g3,g4,_⟩:=A0h hT hs;rcases hlo with rfl|⟨k1,rfl⟩
 all_goals
  simp[F1a,F1v,F0v,F1c,asIntOf,run_underlying g1,sizeOf,E0 g2]
theorem D3a(hT:T.ok P){t sz b o len c l h m:Nat}(hs:A3v T t=some sz)(lo:Option Value)(k2 k3:IntKind)(hlo:(lo=none∧l=0)∨∃k,lo=some (.int k (l:Int)))(h1:l≤h)(h2:h≤m)(h3:m≤c)(w:World):
 (F1a t (.slice (some ⟨b,o,none⟩) len c) lo (some (.int k2 (h:Int))) (some (.int k3 (m:Int)))).run P w=.ok (.slice (some (B5u b o m l sz)) (h-l) (m-l)) w:=by
 obtain⟨e,i,z,x',g1,g2,g3,g4,_⟩:=A0h hT hs;have a1:(0:Int)≤(l:Int)∧(l:Int)≤(h:Int):=by omega
 have a2:(0:Int)≤(h:Int)∧(h:Int)≤(m:Int):=by omega
 have a5:(0:Int)≤(m:Int)∧(m:Int)≤(c:Int):=by omega
 have a3:(0:Int)≤(h:Int):=by omega
 have a4:(0:Int)≤(l:Int):=by omega
 have a6:(0:Int)≤(m:Int):=by omega
 unfold B5u;rcases hlo with⟨rfl,hl0⟩|⟨k1,rfl⟩
 all_goals
  by_cases hc:m=l
  ·simp_all [F1a,F1v,F0v,F1c,asIntOf,run_underlying g1,sizeOf,E0 g2]
  ·simp_all [F1a,F1v,F0v,F1c,asIntOf,run_underlying g1,sizeOf,E0 g2,E8]
theorem B0u(hS:G5 ρ D f fr)(hG:Glob Γ ρ D G){d l:Nat}{y:Operand}(h:bdV N G f d (some y)=some l):∃k,ev N fr y=.int k (l:Int):=by
 rcases W9 hS hG h with⟨h1,_⟩|⟨y',k,h1,h2⟩
 ·cases h1
 ·cases h1;exact⟨k,h2⟩
theorem D0t(hT:T.ok P)(hS:G5 ρ D f fr)(hG:Glob Γ ρ D G)(hL:X7 ρ D h i L){t:Nat}{x y z:Operand}{lo:Option Operand}{v:VV}(he:B7k T N G f h t x lo y z=some v):v.lt D∧PV P N fr ⟨dst,.slice t x lo (some y) (some z),ty,pos,B4,gd⟩ (C2 ρ v):=by
 unfold B7k at he;split at he
 ·rename_i sz hsz hx;split at he
  ·rename_i hl hy hz;cases he;refine⟨by simp only[VV.lt],?_⟩;have hx':=(D5 hS hG hx).2;simp only[C2] at hx'⊢;unfold PV;intro w
   have e1:lo.map (ev N fr)=none∨∃k,lo.map (ev N fr)=some (.int k 0):=by
    rcases W9 hS hG hl with⟨rfl,_⟩|⟨y,k,rfl,h⟩
    ·exact .inl rfl
    ·exact .inr ⟨k,by simp[h]⟩
   obtain⟨k2,hy'⟩:=B0u hS hG hy;obtain⟨k3,hz'⟩:=B0u hS hG hz
   have:=C9z (P:=P) hT hsz _ k2 k3 e1 w
   simp only[execOp,hx',F1q,hy',hz',Sem.run_bind];simp[this]
  ·cases he
 ·rename_i sz b o len c hsz hx;split at he
  ·rename_i l hh m hl hy hz;obtain⟨hlt,hx'⟩:=D5 hS hG hx;simp only[VV.lt] at hlt;simp only[C2] at hx';cases hc:(F0n l hh&&F0n hh m&&A5z h b c m) with
   |false=>rw[hc] at he;cases he
   |true=>
   rw[hc] at he;cases he;simp only[E9j] at hc;have h3:=A7f hL hc.2;obtain⟨cc,hcc⟩:∃cc,cc=ρ.capOf b c:=⟨_,rfl⟩;rw[←hcc] at hx' h3;refine⟨by simp only[VV.lt];exact hlt,?_⟩;unfold PV;intro w
   have e1:(lo.map (ev N fr)=none∧l=0)∨∃k,lo.map (ev N fr)=some (.int k (l:Int)):=by
    rcases W9 hS hG hl with⟨rfl,h⟩|⟨y,k,rfl,h⟩
    ·exact .inl ⟨rfl,h⟩
    ·exact .inr ⟨k,by simp[h]⟩
   obtain⟨k2,hy'⟩:=B0u hS hG hy;obtain⟨k3,hz'⟩:=B0u hS hG hz
   have:=D3a (P:=P) hT hsz (b:=ρ.at_ b) (o:=o) (len:=len) _ k2 k3 e1 (E9w hc.1.1) (E9w hc.1.2) h3 w
   simp only[execOp,hx',F1q,hy',hz',Sem.run_bind,this,Result.andThen,Sem.run_pure,C2,Loc.capOf];unfold B5u;cases hb:E9p m l with
   |true=>have:=E9m hb;simp[this]
   |false=>
    have:¬m=l:=fun e=>by subst e;simp at hb
    simp[this]
  ·cases he
 ·cases he
end
end
noncomputable section
open Go Go.Eng
section
variable{Γ:F7→I4→Code→Prop}{ρ:Loc}{D:J8}{n N G:Nat}{f:Tr VV}{h:VH}{fr:Fr}{P:Program}{T:F7}{i:Imm}{L:SH}{dst:Option Nat}{ty:TypeId}{pos:String}{B4:Array Edge}{gd:Option (Nat×Bool)}
def B7t(T:F7)(t:Nat)(parts:List (Nat×Operand)):Option VV:=
 match D6 T t,parts with
 |some ⟨.array l e,sz,by_,zero⟩,[]=>(match D6 T e with
  |some _=>B3h ⟨.array l e,sz,by_,zero⟩
  |none=>none)
 |_,_=>none
theorem D0y(hT:T.ok P){t:Nat}{parts:Array (Nat×Operand)}{v:VV}(he:B7t T t parts.toList=some v):v.lt D∧PV P N fr ⟨dst,.build t parts,ty,pos,B4,gd⟩ (C2 ρ v):=by
 unfold B7t at he;split at he
 ·rename_i l e sz by_ zero ht hp;split at he
  ·rename_i te hte;obtain⟨h1,h2⟩:=B6n he ρ D;refine⟨h1,?_⟩;have hpp:parts=#[]:=F1w hp;have u1:=(B6 hT ht).und;simp only at u1;obtain⟨_,_,i2,z2,g1,g2,_⟩:=B6 hT hte;unfold PV;intro w;have hz:=B2d hT ht h2 w
   have hv:∃cs,C2 ρ v=.agg cs:=by
    unfold B3h at he;have ha:K4 (TypeDesc.array l e)=true:=rfl;simp only[ha,cond_true] at he;split at he
    ·rename_i l2 _;cases he;exact⟨(C3 ρ l2).toArray,by simp only[C2]⟩
    ·cases he
   obtain⟨cs,hcs⟩:=hv;rw[hcs] at hz⊢;subst hpp;simp[execOp,Instr.build,hz,run_underlying u1,sizeOf,E0 g1,Instr.fill,Value.cells]
  ·cases he
 ·cases he
def E3g(T:F7)(t:Nat)(a b:VV):Option VV:=
 match a,b with
 | .agg cs,.int _ (.ofNat j)=>(match D6 T t with
   |some ⟨.array l e,_,_,_⟩=>(match D6 T e with
    |some d=>bif F0e j l&&K4 d.desc then(match B3j d.size (B3q (j*d.size) cs) with
     |some r=>some (.agg r)
     |none=>none) else none
    |none=>none)
   |_=>none)
 |_,_=>none
theorem E6b(hT:T.ok P){t:Nat}{x y:Operand}{a b v:VV}(hx:ev N fr x=C2 ρ a)(ha:a.lt D)(hy:ev N fr y=C2 ρ b)(he:E3g T t a b=some v):v.lt D∧PV P N fr ⟨dst,.index t x y,ty,pos,B4,gd⟩ (C2 ρ v):=by
 unfold E3g at he;split at he
 ·rename_i cs k j;split at he
  ·rename_i l e _ _ _ ht;split at he
   ·rename_i d hd;cases hb:(F0e j l&&K4 d.desc) with
    |false=>rw[hb] at he;cases he
    |true=>
     rw[hb] at he;simp only[cond_true] at he;simp only[E9j] at hb;have hb':j<l:=by simpa [F1j] using hb.1
     simp only[VV.lt] at ha;simp only[C2] at hx hy;split at he
     ·rename_i r hr;cases he;obtain⟨h1,h2⟩:=A2e hr;rw[A2f] at h1;refine⟨?_,?_⟩
      ·simp only[VV.lt];exact C6.2 fun v hv=>C6.1 ha v (F1g (F1d (by rw[←h1];exact hv)))
      ·have h9:=C1v (dst:=dst) (ty:=ty) (pos:=pos) (B4:=B4) (gd:=gd) hT hx hy ht hd hb.2 ⟨by simp,by simpa using hb'⟩;simp only[C2,h1,F2,List.map_take,List.map_drop];simpa only[Int.ofNat_eq_natCast,Int.toNat_natCast,F2] using h9
     ·cases he
   ·cases he
  ·cases he
 ·cases he
def E3h(T:F7)(t:Nat)(a b:VV):Option VV:=
 match a,b with
 | .agg cs,.int _ (.ofNat j)=>(match arEl T t with
   |some l=>bif F0e j l then nth cs j else none
   |none=>E3g T t a b)
 |_,_=>none
theorem E6c(hT:T.ok P){t:Nat}{x y:Operand}{a b v:VV}(hx:ev N fr x=C2 ρ a)(ha:a.lt D)(hy:ev N fr y=C2 ρ b)(he:E3h T t a b=some v):v.lt D∧PV P N fr ⟨dst,.index t x y,ty,pos,B4,gd⟩ (C2 ρ v):=by
 unfold E3h at he;split at he
 ·rename_i cs k j;split at he
  ·rename_i l hl;cases hb:F0e j l with
   |false=>rw[hb] at he;cases he
   |true=>
    rw[hb] at he;simp only[cond_true] at he;have hb':j<l:=by simpa [F1j] using hb
    simp only[VV.lt] at ha;simp only[C2] at hx hy;refine⟨B5f ha he,E0d hT hx hy hl ⟨by simp,by simpa using hb'⟩ ?_⟩;rw[W5] at he;simp only[Int.ofNat_eq_natCast,Int.toNat_natCast];rw[F2,F0k,he];rfl
  ·exact E6b hT hx ha hy he
 ·cases he
def B7h(T:F7)(N G:Nat)(f:Tr VV)(t:Nat)(x:Operand)(lo hi:Option Operand):Option VV:=
 match D8h T t,evO N G f x with
 |some (c,sz),some (.ptr k o)=>(match bdV N G f 0 lo,bdV N G f c hi with
  |some l,some hh=>bif F0n l hh&&F0n hh c then some (.sl k (bif E9p c l then o else o+l*sz) (hh-l) (.fix (c-l))) else none
  |_,_=>none)
 |_,_=>none
theorem D2y(hT:T.ok P){t sz b o c l h:Nat}(hs:D8h T t=some (c,sz))(lo hi:Option Value)(hlo:(lo=none∧l=0)∨∃k,lo=some (.int k (l:Int)))(hhi:(hi=none∧h=c)∨∃k,hi=some (.int k (h:Int)))(h1:l≤h)(h2:h≤c)(w:World):
 (F1a t (.pointer (some ⟨b,o,none⟩)) lo hi none).run P w=.ok (.slice (some (B5u b o c l sz)) (h-l) (c-l)) w:=by
 obtain⟨e,i,g1,g2,g3⟩:=D7c hT hs;have a1:(0:Int)≤(l:Int)∧(l:Int)≤(h:Int):=by omega
 have a2:(0:Int)≤(h:Int)∧(h:Int)≤(c:Int):=by omega
 have a3:(0:Int)≤(h:Int):=by omega
 have a4:(0:Int)≤(l:Int):=by omega
 unfold B5u;rcases hlo with⟨rfl,hl0⟩|⟨k1,rfl⟩<;>rcases hhi with⟨rfl,hh0⟩|⟨k2,rfl⟩
 all_goals
  by_cases hc:c=l
  ·simp_all [F1a,Instr.sureAddr,F0v,F1c,asIntOf,run_underlying g1,sizeOf,E0 g2]
  ·simp_all [F1a,Instr.sureAddr,F0v,F1c,asIntOf,run_underlying g1,sizeOf,E0 g2,E8]
theorem D0q(hT:T.ok P)(hS:G5 ρ D f fr)(hG:Glob Γ ρ D G){t:Nat}{x:Operand}{lo hi:Option Operand}{v:VV}(he:B7h T N G f t x lo hi=some v):v.lt D∧PV P N fr ⟨dst,.slice t x lo hi none,ty,pos,B4,gd⟩ (C2 ρ v):=by
 unfold B7h at he;split at he
 ·rename_i c sz k o hsz hx;split at he
  ·rename_i l hh hl hhi;obtain⟨hlt,hx'⟩:=D5 hS hG hx;simp only[VV.lt] at hlt;simp only[C2] at hx';cases hc:(F0n l hh&&F0n hh c) with
   |false=>rw[hc] at he;cases he
   |true=>
   rw[hc] at he;cases he;simp only[E9j] at hc;refine⟨by simp only[VV.lt];exact hlt,?_⟩;unfold PV;intro w
   have e1:(lo.map (ev N fr)=none∧l=0)∨∃k,lo.map (ev N fr)=some (.int k (l:Int)):=by
    rcases W9 hS hG hl with⟨rfl,h⟩|⟨y,k,rfl,h⟩
    ·exact .inl ⟨rfl,h⟩
    ·exact .inr ⟨k,by simp[h]⟩
   have e2:(hi.map (ev N fr)=none∧hh=c)∨∃k,hi.map (ev N fr)=some (.int k (hh:Int)):=by
    rcases W9 hS hG hhi with⟨rfl,h⟩|⟨y,k,rfl,h⟩
    ·exact .inl ⟨rfl,h⟩
    ·exact .inr ⟨k,by simp[h]⟩
   have:=D2y (P:=P) hT hsz _ _ e1 e2 (E9w hc.1) (E9w hc.2) w (b:=ρ.at_ k) (o:=o)
   simp only[execOp,hx',Option.map_none,Sem.run_bind,this,Result.andThen,Sem.run_pure,C2,Loc.capOf];unfold B5u;cases hb:E9p c l with
   |true=>have:=E9m hb;simp[this]
   |false=>
    have:¬c=l:=fun e=>by subst e;simp at hb
    simp[this]
  ·cases he
 ·cases he
end
end
noncomputable section
open Go Go.Eng
section
variable{Γ:F7→I4→Code→Prop}{ρ:Loc}{D:J8}{n N G:Nat}{f:Tr VV}{h:VH}{fr:Fr}{P:Program}{T:F7}{i:Imm}{L:SH}{dst:Option Nat}{ty:TypeId}{pos:String}{B4:Array Edge}{gd:Option (Nat×Bool)}
def lenS:VV→Option Nat
 | .nils=>some 0
 | .sle _ _ _ _=>some 0
 | .sl _ _ m _=>some m
 | .str s=>some s.length
 |_=>none
def E4a(n:Nat):VV→VV
 | .sl k o _ c=>.sl k o n c
 |v=>v
def evCopy(T:F7)(t tx:Nat)(a b:VV)(h:VH)(n:Nat):Option Eff:=
 match A3v T t with
 |some sz=>(match lenS b with
  |some m=>(match a with
   | .sl k o len _=>(match C8a T h sz tx (E4a (Nat.min m len) b) with
     |some (m',news)=>bif E9p m' (Nat.min m len) then
      bif E9p m' 0 then some ⟨some (.int .i64 0),h,n⟩ else
      (match get k h with
      |some (false,.cells l ty' sz')=>(match B4p l o news with
       |some l'=>some ⟨some (.int .i64 (.ofNat m')),set k (false,.cells l' ty' sz') h,n⟩
       |none=>none)
      |_=>none) else none
     |none=>none)
   | .nils=>(match C8a T h sz tx (E4a 0 b) with
     |some (0,_)=>some ⟨some (.int .i64 0),h,n⟩
     |_=>none)
   |_=>none)
  |none=>none)
 |none=>none
def delK:VEs→Nat→VEs
 |_::es,0=>es
 |e::es,j+1=>e::delK es j
 |[],_=>[]
def evDelete(T:F7)(t:Nat)(a k:VV)(h:VH)(n:Nat):Option Eff:=
 match D6 T t with
 |some ⟨.map kt _,_,_,_⟩=>(match D6 T kt with
  |some dk=>bif W7 dk.desc k then(match a with
   | .nilm=>some ⟨some (.tup []),h,n⟩
   | .map b=>(match get b h with
     |some (false,.map es c)=>(match A8n k es 0 with
      |some (some (j,_))=>some ⟨some (.tup []),set b (false,.map (delK es j) c) h,n⟩
      |some none=>some ⟨some (.tup []),set b (false,.map es c) h,n⟩
      |none=>none)
     |_=>none)
   |_=>none) else none
  |none=>none)
 |_=>none
def D2k(T:F7)(t tx:Nat)(a b:VV)(n:Nat):Option (VV×VO):=
 match D6 T t with
 |some ⟨.slice e,_,_,_⟩=>(match D6 T e with
  |some te=>(match a,b with
   | .nils,.int _ (.ofNat m)=>bif R5 T C2v tx&&F0e 0 te.size&&F0e 0 m&&F0n (m*te.bytes) 1099511627776&&F0n m 1099511627776 then some (.sl n 0 m (.rest 0),.cells [] e te.size) else none
   |_,_=>none)
  |none=>none)
 |_=>none
theorem D9n(hT:T.ok P){t tx:Nat}{x y:Operand}{a b v:VV}{vo:VO}(hx:ev N fr x=C2 ρ a)(hy:ev N fr y=C2 ρ b)(he:D2k T t tx a b n=some (v,vo)):P3 P N ⟨dst,.call ⟨.builtin .append,#[x,y],#[t,tx]⟩,ty,pos,B4,gd⟩ fr i L (B9w ρ D n v vo i L):=by
 unfold D2k at he;split at he
 ·rename_i e _ _ _ ht;split at he
  ·rename_i te hte;split at he
   ·rename_i k m;cases hc:(R5 T C2v tx&&F0e 0 te.size&&F0e 0 m&&F0n (m*te.bytes) 1099511627776&&F0n m 1099511627776) with
    |false=>rw[hc] at he;cases he
    |true=>
    rw[hc] at he;cases he;simp only[E9j,F1j] at hc;obtain⟨⟨⟨⟨c1,c2⟩,c3⟩,c4⟩,c5⟩:=hc;have c4:=E9w c4;have c5:=E9w c5;simp only[C2] at hx hy;refine B4j hT hx hy ⟨_,ht,rfl⟩ c1 ⟨_,hte,rfl,rfl⟩ c2 c3 (by omega) (by omega) fun b cap cs hcap hlen=>?_
    refine⟨rfl,by simp[VV.lt,J8.add],by simp only[VO.lt,C5],b,_,cap,rfl,by simp[C2,Loc.add,Loc.capOf],cs,by simp[C3],by simp[Loc.add,hlen]⟩
   ·cases he
  ·cases he
 ·cases he
end
end
noncomputable section
open Go Go.Eng
section
variable{Γ:F7→I4→Code→Prop}{ρ:Loc}{D:J8}{n N G:Nat}{f:Tr VV}{h:VH}{fr:Fr}{P:Program}{T:F7}{i:Imm}{L:SH}{dst:Option Nat}{ty:TypeId}{pos:String}{B4:Array Edge}{gd:Option (Nat×Bool)}
theorem C4n{ρ:Loc}{z:Array Value}{zs:List VV}(hz:z=(C3 ρ zs).toArray)(hne:0<zs.length)(k:Nat):F1n z k=(C3 ρ (X8 zs k)).toArray:=by
 have hsz:z.size=zs.length:=by rw[hz,List.size_toArray,E5]
 apply Array.ext_getElem?;intro j;rw[show((C3 ρ (X8 zs k)).toArray)[j]?=((X8 zs k)[j]?).map (C2 ρ) from by rw[List.getElem?_toArray,F2,F0k]];unfold F1n;rw[Array.getElem?_map,Array.getElem?_range,hsz];by_cases hj:j<k*zs.length
 ·rw[B6v zs k j hj,if_pos hj,F1q];have hm:j % zs.length<zs.length:=Nat.mod_lt _ hne
  have h3:z[j % zs.length]?=some (C2 ρ zs[j % zs.length]):=by
   rw[hz,List.getElem?_toArray,F2,F0k,E9v hm];rfl
  rw[getElem!_def,h3,E9v hm];rfl
 ·have h1:(X8 zs k)[j]?=none:=by rw[List.getElem?_eq_none_iff,B0k];omega
  rw[h1,if_neg hj];rfl
def C4b(T:F7)(t:Nat)(a:VV)(h:VH)(n:Nat):Option Eff:=
 match D6 T t with
 |some ⟨.slice e,_,_,_⟩=>(match a with
  | .nils=>some ⟨some (.tup []),h,n⟩
  | .sle _ _ _ _=>some ⟨some (.tup []),h,n⟩
  | .sl _ _ 0 _=>some ⟨some (.tup []),h,n⟩
  | .sl k o m _=>(match D6 T e with
    |some te=>(match C2e te.zero with
     |some zs=>bif F0e 0 zs.length&&zs.all C5m then(match get k h with
      |some (false,.cells l ty' sz')=>(match B4p l o (X8 zs m) with
       |some l'=>some ⟨some (.tup []),set k (false,.cells l' ty' sz') h,n⟩
       |none=>none)
      |_=>none) else none
     |none=>none)
    |none=>none)
  |_=>none)
 |some ⟨.map _ _,_,_,_⟩=>(match a with
  | .nilm=>some ⟨some (.tup []),h,n⟩
  | .map b=>(match get b h with
    |some (false,.map _ c)=>some ⟨some (.tup []),set b (false,.map [] c) h,n⟩
    |_=>none)
  |_=>none)
 |_=>none
theorem D3m(hT:T.ok P)(hL:X7 ρ D h i L){t:Nat}{x:Operand}{a:VV}{e:Eff}(hx:ev N fr x=C2 ρ a)(he:C4b T t a h n=some e):
 P3 P N ⟨dst,.call ⟨.builtin .clear,#[x],#[t]⟩,ty,pos,B4,gd⟩ fr i L (G3 ρ D n e):=by
 have hex:∀w r w',(Builtin.clear_ #[t] ty #[C2 ρ a]).run P w=.ok r w'→(execOp (ev N fr) ⟨dst,.call ⟨.builtin .clear,#[x],#[t]⟩,ty,pos,B4,gd⟩).run P w=.ok (.value r) w':=by
  intro w r w' hr;simp[execOp,resolve,hx,invoke,builtin,hr]
 have nothing:(∀w,St i L w→(Builtin.clear_ #[t] ty #[C2 ρ a]).run P w=.ok (.tuple #[]) w)→P3 P N ⟨dst,.call ⟨.builtin .clear,#[x],#[t]⟩,ty,pos,B4,gd⟩ fr i L (G3 ρ D n ⟨some (.tup []),h,n⟩):=fun hr=>
  M4 (v:=C2 ρ (.tup [])) (fun w hw=>hex w _ _ (by rw[hr w hw];simp[C2,C3])) (Y6 hL (by simp[VV.lt,C5]))
 unfold C4b at he;split at he
 ·rename_i el _ _ _ ht;have u1:=(B6 hT ht).und;simp only at u1;split at he
  ·cases he;refine nothing fun w hw=>?_
   simp only[C2];simp[Builtin.clear_,run_underlying u1]
  ·cases he;refine nothing fun w hw=>?_
   simp only[C2];simp[Builtin.clear_,run_underlying u1]
  ·cases he;refine nothing fun w hw=>?_
   simp only[C2];simp[Builtin.clear_,run_underlying u1]
  ·rename_i k o m c hm0;split at he
   ·rename_i te hte;split at he
    ·rename_i zs hzs;cases hc:(F0e 0 zs.length&&zs.all C5m) with
     |false=>rw[hc] at he;cases he
     |true=>
     rw[hc] at he;simp only[cond_true,E9j,F1j] at he hc;split at he
     ·rename_i l ty' sz' hk;split at he
      ·rename_i l' hp;cases he;obtain⟨p1,p2⟩:=A2v hp;obtain⟨hkD,hklt,_⟩:=hL.ok _ _ _ hk;obtain⟨ob,j,⟨sp,rfl,hcapk⟩,hj⟩:=X7.own hL hk;obtain⟨_,_,ti,z,hi,_,_,hz,hzc⟩:=B6 hT hte;obtain⟨z1,z2⟩:=A1j ρ D hzs;have hzz:z.cells=(C3 ρ zs).toArray:=by rw[hzc,z2]
       have hze:=C4n hzz hc.1 m
       have hlts:C5 D (X8 zs m):=C6.2 fun v hv=>by
        have:∀k,v∈X8 zs k→v∈zs:=by
         intro k;induction k with
         |zero=>intro h;cases h
         |succ k ih=>intro h;rw[X8,E9r] at h;exact h.elim id ih
        exact C6.1 z1 v (this m hv)
       have hone:∀u∈C3 ρ (X8 zs m),u.oneCell'=true:=fun u hu=>by
        rw[F2] at hu;obtain⟨q,hq,rfl⟩:=F1k.1 hu
        have:∀k,q∈X8 zs k→q∈zs:=by
         intro k;induction k with
         |zero=>intro h;cases h
         |succ k ih=>intro h;rw[X8,E9r] at h;exact h.elim id ih
        exact C3n (F0c.1 hc.2 q (this m hq))
       refine F5 fun w hw=>?_
       have hg:=hw.own _ (E9g hj);simp only at hg
       have hcell:∀q,q<(C3 ρ (X8 zs m)).length→(w.cell? ⟨ρ.at_ k,o+q,none⟩).isSome=true:=fun q hq=>by
        rw[E5] at hq;rw[P7 hg,E9t (by rw[E5];omega),E9v (by rw[E5];omega)];rfl
       have hfz:∀q,q<(C3 ρ (X8 zs m)).length→w.frozen? ⟨ρ.at_ k,o+q,none⟩=false:=fun q _=>by
        simp[World.frozen?,hg]
       have hst:=run_storeCells_cells (P:=P) (ρ.at_ k) o (C3 ρ (X8 zs m)) 0 w (by simpa using hcell) (by simpa using hfz) hone;simp only[Nat.add_zero] at hst;have hst2:=St.setCells hw (vs:=C3 ρ (X8 zs m)) (o:=o) hj (by rw[E9h,E5,E5];omega)
       have hlt':C5 D l':=C6.2 fun u hu=>by
        rw[p2,E9r,E9r] at hu;rcases hu with(hu|hu)|hu
        ·exact C6.1 hklt u (F1d hu)
        ·exact C6.1 hlts u hu
        ·exact C6.1 hklt u (F1g hu)
       have hlen':l'.length=l.length:=by rw[p2];simp;omega
       have hzv:(zeroValue el).run P w=.ok z w:=by simp[zeroValue,E0 hi,hz]
       have hm1:m≠0:=fun e=>hm0 e
       refine⟨.tuple #[],_,i,_,hex w _ _ ?_,Imm.le.refl i,hst2,ρ,Ext.refl D ρ,E9q n,?_,fun v hv=>?_⟩
       ·simp only[C2];have hz2:(F1n z.cells m).toList=C3 ρ (X8 zs m):=by rw[hze]
        cases m with
        |zero=>exact absurd rfl hm1
        |succ m=>simp[Builtin.clear_,run_underlying u1,hzv,hz2,hst]
       ·refine LayP.mono (X7.put hL (vo':=.cells l' ty' sz') hk hj hlt' ⟨sp,?_,by rw[hlen'];exact hcapk⟩) (D.le_upto n n);congr 2;rw[p2,V6,V6];simp only[F2,List.map_take,List.map_drop,F1t];rw[List.take_append_of_le_length (by rw[F1t];omega),List.drop_append_of_le_length (by rw[F1t];omega)];simp only[F0p]
       ·cases hv;exact⟨by simp[VV.lt,C5],by simp[C2,C3]⟩
      ·cases he
     ·cases he
    ·cases he
   ·cases he
  ·cases he
 ·rename_i kt et _ _ _ ht;have u1:=(B6 hT ht).und;simp only at u1;split at he
  ·cases he;refine nothing fun w hw=>?_
   simp only[C2];simp[Builtin.clear_,run_underlying u1]
  ·rename_i b;split at he
   ·rename_i es c hb;cases he;obtain⟨ob,j,ho,hj⟩:=X7.own hL hb;have ho':ob=.map (N5 ρ es).toArray c:=ho;subst ho';refine F5 fun w hw=>⟨.tuple #[],_,i,_,hex w _ (ChangeMaps.setBlock w (ρ.at_ b) (.map #[] c)) ?_,Imm.le.refl i,hw.setBlock _ hj,ρ,Ext.refl D ρ,E9q n,(X7.put hL (vo':=.map [] c) hb hj (fun e he=>by cases he) rfl).mono (D.le_upto n n),fun v hv=>by cases hv;exact⟨by simp[VV.lt,C5],by simp[C2,C3]⟩⟩
    have h7:=hw.own _ (E9g hj);have g1:(getObj (ρ.at_ b)).run P w=.ok (.map (N5 ρ es).toArray c) w:=M9 h7;have g2:=A1t (P:=P) (.map #[] c) h7;simp only[C2];simp[Builtin.clear_,run_underlying u1,g1,g2];rfl
   ·cases he
  ·cases he
 ·cases he
def isIfD:TypeDesc→Bool
 | .interface _=>true
 |_=>false
def evTA(T:F7)(at_:Nat)(ok:Bool)(a:VV):Option VV:=
 match D6 T at_ with
 |some e=>bif isIfD e.desc then none else(match a with
  | .iface t v=>bif E9p t at_ then some (bif ok then .tup [v,.bool true] else v)
    else bif ok then(match B3h e with
     |some z=>some (.tup [z,.bool false])
     |none=>none) else none
  | .nili=>bif ok then(match B3h e with
   |some z=>some (.tup [z,.bool false])
   |none=>none) else none
  |_=>none)
 |none=>none
def A3k(T:F7)(cs:List VV):List Field→Bool
 |[]=>true
 |fd::fs=>(match D6 T fd.type,nth cs fd.offset with
  |some d,some v=>W7 d.desc v&&A3k T cs fs
  |_,_=>false)
def C3z(T:F7)(N G:Nat)(f:Tr VV)(h:VH)(t:Nat)(x y:Operand)(ok:Bool):Option VV:=
 match D6 T t with
 |some ⟨.map kt et,_,_,_⟩=>(match D6 T kt,D6 T et with
  |some ⟨.struct fs,_,_,_⟩,some de=>(match evO N G f x,evO N G f y with
   |some m,some (.agg cs)=>bif A3k T cs fs.toList then(match E2z h m with
    |some []=>(match B3h de with
     |some v=>some (bif ok then .tup [v,.bool false] else v)
     |none=>none)
    |_=>none) else none
   |_,_=>none)
  |_,_=>none)
 |_=>none
theorem A8u(hT:T.ok P){cs:List VV}{e:Bool}{m:Nat}{w:World}:∀{fs:List Field},A3k T cs fs=true→
 (forIn (m:=Sem) fs PUnit.unit fun(fd:Field)(_:PUnit)=>(do
  if fd.name≠ "_" then Instr.checkKey e (m+1) fd.type (←part fd.type (C3 ρ cs).toArray fd.offset)
  pure (ForInStep.yield PUnit.unit))).run P w=.ok PUnit.unit w
 |[],_=>by simp
 |fd::fs,h=>by
  simp only[A3k] at h;split at h
  ·rename_i d v hd hv;simp only[E9j] at h;have ih:=A8u hT (e:=e) (m:=m) (w:=w) h.2;have u:=(B6 hT hd).und;have hna:K4 d.desc=false:=by cases hdd:d.desc<;>rw[hdd] at h<;>first|rfl|(cases h.1;done)
   have hp:(part fd.type (C3 ρ cs).toArray fd.offset).run P w=.ok (C2 ρ v) w:=by
    rw[W5] at hv;simp[part,U5 u,hna,F2,hv]
   have hk:=A3p (ρ:=ρ) (w:=w) u h.1 e m;rw[List.forIn_cons];by_cases hn:fd.name= "_"
   ·simp[hn];simpa using ih
   ·simp[hn,hp,hk];simpa using ih
  ·cases h
theorem D3j(hT:T.ok P)(hS:G5 ρ D f fr)(hG:Glob Γ ρ D G)(hL:X7 ρ D h i L){t:Nat}{x y:Operand}{ok:Bool}{v:VV}(hv:C3z T N G f h t x y ok=some v):v.lt D∧LV P N fr i L ⟨dst,.lookup t x y ok,ty,pos,B4,gd⟩ (C2 ρ v):=by
 unfold C3z at hv;split at hv
 ·rename_i kt et _ _ _ ht;split at hv
  ·rename_i fs _ _ _ de hdk hde;split at hv
   ·rename_i m cs hm hk;cases hkd:A3k T cs fs.toList with
    |false=>rw[hkd] at hv;cases hv
    |true=>
    rw[hkd] at hv;simp only[cond_true] at hv;split at hv
    ·rename_i hes;split at hv
     ·rename_i v0 hz;cases hv;obtain⟨m1,m2⟩:=D5 hS hG hm;obtain⟨k1,k2⟩:=D5 hS hG hk;simp only[C2] at k2;have u1:=(B6 hT ht).und;have u2:=(B6 hT hdk).und;simp only at u1 u2;obtain⟨_,e2⟩:=C4e hL hes m1;obtain⟨z1,z2⟩:=B6n hz ρ D;refine⟨?_,?_⟩
      ·cases ok
       ·exact z1
       ·simp only[cond_true,VV.lt,C5];exact⟨z1,trivial,trivial⟩
      ·unfold LV;intro w hw
       have g4:∀e,(Instr.checkKey e 10000 kt (.agg (C3 ρ cs).toArray)).run P w=.ok () w:=fun e=>by
        have:=A8u (ρ:=ρ) hT (e:=e) (m:=9998) (w:=w) hkd
        show(Instr.checkKey e (9999+1) kt _).run P w=_
        rw[Instr.checkKey];simp only[Sem.run_bind,run_underlying u2,Result.andThen_ok];rw[←Array.forIn_toList];rw[this];rfl
       have g3:(Instr.findKey kt (.agg (C3 ρ cs).toArray) []).run P w=.ok none w:=by
        simp[Instr.findKey,run_underlying u2,Instr.findNow]
       have hzr:=B2d hT hde z2 w
       have hfin:C2 ρ (bif ok then VV.tup [v0,.bool false] else v0)=if ok=true then .tuple #[C2 ρ v0,.bool false] else C2 ρ v0:=by
        cases ok
        ·rfl
        ·simp only[cond_true,C2,C3,if_true]
       rw[hfin];rcases e2 with⟨e2,_⟩|⟨bb,c,e2,e3⟩
       ·rw[e2] at m2;simp only[execOp,m2,k2,Instr.lookup];simp[run_underlying u1,g4,g3,hzr]
       ·rw[e2] at m2;have g1:(getObj bb).run P w=.ok (.map (N5 ρ []).toArray c) w:=M9 (e3.block hw);simp only[execOp,m2,k2,Instr.lookup];simp[run_underlying u1,g1,g4,N5,g3,hzr]
     ·cases hv
    ·cases hv
   ·cases hv
  ·cases hv
 ·cases hv
end
end
noncomputable section
open Go Go.Eng
section
variable{Γ:F7→I4→Code→Prop}{ρ:Loc}{D:J8}{n N G:Nat}{f:Tr VV}{h:VH}{fr:Fr}{P:Program}{T:F7}{i:Imm}{L:SH}{dst:Option Nat}{ty:TypeId}{pos:String}{B4:Array Edge}{gd:Option (Nat×Bool)}
def fsEq(T:F7):List Field→Nat→List VV→List VV→Option Bool
 |[],_,_,_=>some true
 |f::fs,k,x::xs,y::ys=>bif E9p f.offset k then(match D6 T f.type with
  |some e=>bif A9b e.desc&&W7 e.desc x then(match eqK x y with
   |some true=>fsEq T fs (k+1) xs ys
   |r=>r) else none
  |none=>none) else none
 |_,_,_,_=>none
def E3k(T:F7)(N G:Nat)(f:Tr VV)(op:BinOp)(t:Nat)(x y:Operand):Option VV:=
 match D6 T t with
 |some ⟨.struct fs,_,_,_⟩=>bif B1p (.struct fs) then(match evO N G f x with
  |some (.agg xs)=>(match evO N G f y with
   |some (.agg ys)=>(match fsEq T fs.toList 0 xs ys with
    |some r=>(match op with
     | .eql=>some (.bool r)
     | .neq=>some (.bool (!r))
     |_=>none)
    |none=>none)
   |_=>none)
  |_=>none) else none
 |_=>none
theorem D6q{d:TypeDesc}{t:Nat}{x y:VV}{r:Bool}(hu:P.underlying t=some d)(hk:W7 d x=true)(h:eqK x y=some r)(m:Nat)(w:World):(Op.equalIn (m+1) t (C2 ρ x) (C2 ρ y)).run P w=.ok r w:=by
 unfold eqK at h;split at h
 ·rename_i k1 n1 k2 n2;cases hd:decide (k1=k2) with
  |false=>rw[hd] at h;cases h
  |true=>
   rw[hd] at h;cases h;have hkk:k1=k2:=by simpa using hd
   subst hkk;cases d<;>first|(cases hk;done)|skip
   simp[C2,Op.equalIn,run_underlying hu];rfl
 ·cases h;cases d<;>first|(cases hk;done)|skip
  simp only[C2];rw[B6j];simp[Op.equalIn,run_underlying hu,A7v]
 ·cases h;cases d<;>first|(cases hk;done)|skip
  simp[C2,Op.equalIn,run_underlying hu]
 ·cases h
theorem C8z(hT:T.ok P)(m:Nat)(w:World)(XS YS:List VV):∀{fs:List Field}{k:Nat}{xs ys:List VV}{r:Bool},(∀f∈fs,B2g f.name=true)→fsEq T fs k xs ys=some r→XS.drop k=xs→YS.drop k=ys→(Op.eqFields (m+1) (C3 ρ XS).toArray (C3 ρ YS).toArray fs).run P w=.ok r w
 |[],_,_,_,r,_,h,_,_=>by
  cases h;simp[Op.eqFields]
 |f::fs,k,[],ys,r,_,h,_,_=>by cases ys<;>cases h
 |f::fs,k,x::xs,[],r,_,h,_,_=>by cases h
 |f::fs,k,x::xs,y::ys,r,hp,h,hx,hy=>by
  simp only[fsEq] at h;cases ho:E9p f.offset k with
  |false=>rw[ho] at h;cases h
  |true=>
  rw[ho] at h;simp only[cond_true] at h;have ho:=E9m ho;split at h
  ·rename_i e he;cases hb:(A9b e.desc&&W7 e.desc x) with
   |false=>rw[hb] at h;cases h
   |true=>
   rw[hb] at h;simp only[cond_true] at h;simp only[E9j] at hb;have hu:=(B6 hT he).und
   have gx:(C3 ρ XS).toArray[k]?=some (C2 ρ x):=by
    have:=congrArg (·[0]?) hx
    simp only[F1e,Nat.add_zero,List.getElem?_cons_zero] at this;rw[List.getElem?_toArray,F2,F0k,this];rfl
   have gy:(C3 ρ YS).toArray[k]?=some (C2 ρ y):=by
    have:=congrArg (·[0]?) hy
    simp only[F1e,Nat.add_zero,List.getElem?_cons_zero] at this;rw[List.getElem?_toArray,F2,F0k,this];rfl
   have hx':XS.drop (k+1)=xs:=by rw[←F1u,hx];rfl
   have hy':YS.drop (k+1)=ys:=by rw[←F1u,hy];rfl
   have hag:K4 e.desc=false:=by
    cases hd:e.desc<;>rw[hd] at hb<;>first|rfl|(cases hb.1;done)
   have pa:∀(A:Array Value)(a:Value),A[k]?=some a→(part f.type A f.offset).run P w=.ok a w:=by
    intro A a hA;simp[part,U5 hu,hag,ho,hA]
   have hn:f.name≠ "_" :=by
    intro e0
    have:=hp f (F0g ..)
    rw[e0] at this;exact absurd this (by decide)
   simp only[Op.eqFields,if_pos hn];rw[G8 _ _ _ _ _ (pa _ _ gx),G8 _ _ _ _ _ (pa _ _ gy)];split at h
   ·rename_i hk;rw[G8 _ _ _ _ _ (D6q hu hb.2 hk m w)];have ih:=C8z hT m w XS YS (fun f' hf'=>hp f' (E9u _ hf')) h hx' hy';simpa using ih
   ·rename_i hk;cases r with
    |true=>exact absurd h hk
    |false=>
     rw[G8 _ _ _ _ _ (D6q hu hb.2 h m w)];simp
  ·cases h
theorem E6e(hT:T.ok P)(hS:G5 ρ D f fr)(hG:Glob Γ ρ D G){op:BinOp}{t t2:Nat}{x y:Operand}{v:VV}(he:E3k T N G f op t x y=some v):v.lt D∧PV P N fr ⟨dst,.binOp op t x y t2,ty,pos,B4,gd⟩ (C2 ρ v):=by
 unfold E3k at he;split at he
 ·rename_i fs _ _ _ ht;cases hp:B1p (.struct fs) with
  |false=>rw[hp] at he;cases he
  |true=>
  rw[hp] at he;simp only[cond_true] at he;have hz:=(A6z hT ht).2.2.2 hp;have hu:=(B6 hT ht).und;have hf:P.fieldsOf t=fs:=by unfold Program.fieldsOf;rw[hu]
  have hnm:∀f∈fs.toList,B2g f.name=true:=by
   simp only[B1p,F0c] at hp;exact hp
  split at he
  ·rename_i xs hx;split at he
   ·rename_i ys hy;have hx':=(D5 hS hG hx).2;have hy':=(D5 hS hG hy).2;simp only[C2] at hx' hy';split at he
    ·rename_i r hr
     have key:∀w,(Op.equal t (.agg (C3 ρ xs).toArray) (.agg (C3 ρ ys).toArray)).run P w=.ok r w:=by
      intro w
      have:=run_equalIn_struct (P:=P) w 9999 t (C3 ρ xs).toArray (C3 ρ ys).toArray (by rw[hf];exact hu) hz.1
      rw[hf] at this;unfold Op.equal;rw[show Op.maxDepth=9999+1 from rfl,this];exact C8z hT 9998 w xs ys hnm hr rfl rfl
     split at he
     ·cases he;refine⟨by simp only[VV.lt],?_⟩;simp only[C2];unfold PV;intro w;simp[execOp,hx',hy',eqGuard,binOp,key,Result.andThen,hz.2]
     ·cases he;refine⟨by simp only[VV.lt],?_⟩;simp only[C2];unfold PV;intro w;simp[execOp,hx',hy',eqGuard,binOp,key,Result.andThen,hz.2]
     ·cases he
    ·cases he
   ·cases he
  ·cases he
 ·cases he
end
end
noncomputable section
open Go Go.Eng
theorem B8a{P:Program}{all:List Oper}{n:Nat}{r:List Oper}{f:Fr}{i:Imm}{L:SH}{K K':Fr→Imm→SH→Prop}(h:RS P all n r f i L K)(hk:∀f' i' L',K f' i' L'→K' f' i' L'):RS P all n r f i L K':=by
 unfold RS at*;intro F hF ds w hw Q hQ;exact h F hF ds w hw Q fun f' i' L' w' hi hs k=>hQ f' i' L' w' hi hs (hk _ _ _ k)
inductive Tgt where
 |fn (g:Nat)
 |it (g:Nat)
 |yld (b:Nat)
abbrev N8:=Tgt→List VV→VH→Nat→Option Eff
def D5f(P:Program)(g:FuncId)(args:List Value)(i:Imm)(L:SH)(G3:Value→Imm→SH→Prop):Prop:=
 (Z2 P g=true∧E6 P g args i L G3)∨∀w,St i L w→∃v w' i' L',(callFunc g args.toArray).run P w=.ok (.value v) w'∧i.le i'∧St i' L' w'∧G3 v i' L'
structure CalOk(P:Program)(Γ:F7→I4→Code→Prop)(G:Nat)(cal:N8):Prop where
 fn:∀g vs h n e,cal (.fn g) vs h n=some e→∀(ρ:Loc)(D:J8)(i:Imm)(L:SH),X2 D n→Glob Γ ρ D G→X7 ρ D h i L→C5 D vs→D5f P g (C3 ρ vs) i L (G3 ρ D n e)
 it:∀g vs h n e,cal (.it g) vs h n=some e→∀(ρ:Loc)(D:J8)(i:Imm)(L:SH),X2 D n→Glob Γ ρ D G→X7 ρ D h i L→C5 D vs→Z2 P g=true∧E6 P g (C3 ρ vs) i L (G3 ρ D n e)
 yld:∀b vs h n e,cal (.yld b) vs h n=some e→∀(ρ:Loc)(D:J8)(i:Imm)(L:SH),X2 D n→Glob Γ ρ D G→X7 ρ D h i L→D b→C5 D vs→B1w P (ρ.at_ b) (C3 ρ vs) i L fun c i' L'=>G3 ρ D n e (.bool c) i' L'
section
variable{Γ:F7→I4→Code→Prop}{ρ:Loc}{D:J8}{n N G:Nat}{f:Tr VV}{h:VH}{fr:Fr}{P:Program}{T:F7}{cal:N8}{i:Imm}{L:SH}
def A8p(T:F7)(N G:Nat)(f:Tr VV)(n:Nat)(o:Op):Option (VV×VO):=
 match o with
 | .alloc t=>C4d T t n
 | .box t x=>E3m N G f t x n
 | .buildSlice t len parts=>A5q T N G f t len parts.toList n
 | .makeMap _ none=>some (.map n,.map [] 0)
 | .makeSlice t x y=>D2g T N G f t x y n
 | .convert s d x=>B7m T N G f s d x n
 | .makeMap t (some x)=>(match D6 T t with
   |some ⟨.map _ _,_,_,_⟩=>(match evO N G f x with
    |some (.int _ _)=>some (.map n,.map [] 0)
    |_=>none)
   |_=>none)
 |_=>none
theorem C5f{K:Value→Imm→SH→Prop}{dst:Option Nat}{ty:TypeId}{pos:String}{B4:Array Edge}{gd:Option (Nat×Bool)}(hT:T.ok P){t kt et:TypeId}{x:Operand}{k:IntKind}{a:Int}(ht:∃d,D6 T t=some d∧d.desc=.map kt et)(hx:ev N fr x=.int k a)(h:∀b,K (.map (some b)) i ((b,.map #[] 0)::L)):P3 P N ⟨dst,.makeMap t (some x),ty,pos,B4,gd⟩ fr i L K:=by
 obtain⟨d,h1,h2⟩:=ht;have h5:=(B6 hT h1).und;rw[h2] at h5;refine F5 fun w hw=>?_
 refine⟨.map (some w.heap.size),{w with heap:=w.heap.push (.map #[] 0)},i,_,?_,Imm.le.refl i,hw.push rfl rfl rfl rfl,h _⟩;simp[execOp,Instr.makeMap,newObj,run_underlying h5,hx,asInt,asIntOf];rfl
theorem C9g(hT:T.ok P)(hS:G5 ρ D f fr)(hG:Glob Γ ρ D G)(hD:¬D n){o:Oper}{v:VV}{vo:VO}(he:A8p T N G f n o.op=some (v,vo)):P3 P N o fr i L (B9w ρ D n v vo i L):=by
 obtain⟨dst,op,ty,pos,B4,gd⟩:=o;simp only at he;unfold A8p at he;split at he
 ·exact D3p hT hD he
 ·exact E6f hS hG hD he
 ·exact B4y hT hS hG hD he
 ·cases he;exact A4t (mk:=fun b=>.map (some b)) (ob:=.map #[] 0) (c:=0) (B4h fun b=>⟨b,rfl,rfl,rfl⟩) (fun e he=>by cases he) (by simp[VV.lt,J8.add]) (fun b=>rfl) fun b=>by simp[C2,Loc.add]
 ·exact D9k hT hS hG he
 ·exact D0u hT hS hG he
 ·split at he
  ·rename_i kt et _ _ _ ht;split at he
   ·rename_i k a hx;cases he;have hx':=(D5 hS hG hx).2;simp only[C2] at hx';exact A4t (mk:=fun b=>.map (some b)) (ob:=.map #[] 0) (c:=0) (C5f hT ⟨_,ht,rfl⟩ hx' fun b=>⟨b,rfl,rfl,rfl⟩) (fun e he=>by cases he) (by simp[VV.lt,J8.add]) (fun b=>rfl) fun b=>by simp[C2,Loc.add]
   ·cases he
  ·cases he
 ·cases he
def A6r(T:F7)(N G:Nat)(f:Tr VV)(h:VH)(o:Op):Option VV:=
 match o with
 | .load t x=>B1r T N G f h (.load t x)
 | .lookup t x y ok=>(match B7p T N G f h t x y ok with
   |some v=>some v
   |none=>C3z T N G f h t x y ok)
 | .entry x=>C4a N G f x h
 | .build t parts=>(match C4c T N G f t parts.toList with
   |some v=>some v
   |none=>B7t T t parts.toList)
 | .indexAddr t x y=>(match evO N G f x with
   |some a=>(match evO N G f y with
    |some b=>D2b T t a b
    |none=>none)
   |none=>none)
 | .index t x y=>(match evO N G f x with
   |some a=>(match evO N G f y with
    |some b=>(match ixAt T t a b with
     |some v=>some v
     |none=>E3h T t a b)
    |none=>none)
   |none=>none)
 | .call ⟨.builtin .len,args,ts⟩=>(match args.toList,ts.toList with
   |[x],[t]=>(match evO N G f x with
    |some a=>(match lenV T t a with
     |some v=>some v
     |none=>D2h T t h a)
    |none=>none)
   |_,_=>none)
 | .call ⟨.builtin bi,args,ts⟩=>(match C2h N G f args.toList with
   |some vs=>evMM T bi ts.toList vs
   |none=>none)
 | .field s x k=>(match evO N G f x with
   |some a=>fldV T s k a
   |none=>none)
 | .convert s d x=>(match evO N G f x with
   |some a=>(match conv T s d a with
    |some v=>some v
    |none=>B7r T s d h a)
   |none=>none)
 | .slice t x lo (some y) (some z)=>B7k T N G f h t x lo y z
 | .slice t x lo hi none=>(match B7j T N G f t x lo hi with
   |some v=>some v
   |none=>(match B7f T N G f t x lo hi with
    |some v=>some v
    |none=>(match B7g T N G f h t x lo hi with
     |some v=>some v
     |none=>B7h T N G f t x lo hi)))
 | .binOp op t x y t2=>(match C2w T N G f (.binOp op t x y t2) with
   |some v=>some v
   |none=>(match E3j T N G f op t x y with
    |some v=>some v
    |none=>E3k T N G f op t x y))
 |o=>C2w T N G f o
theorem A6d{o:Oper}{v:Value}(h:PV P N fr o v):LV P N fr i L o v:=by
 unfold PV at h;unfold LV;exact fun w _=>h w
theorem B0p(hT:T.ok P)(hS:G5 ρ D f fr)(hG:Glob Γ ρ D G)(hL:X7 ρ D h i L){o:Oper}{v:VV}(he:A6r T N G f h o.op=some v):v.lt D∧LV P N fr i L o (C2 ρ v):=by
 obtain⟨dst,op,ty,pos,B4,gd⟩:=o;simp only at he;unfold A6r at he;split at he
 ·exact C1m hT hS hG hL he
 ·split at he
  ·rename_i v' hv';cases he;exact D0w hT hS hG hL hv'
  ·exact D3j hT hS hG hL he
 ·exact D3k hS hG hL he
 ·split at he
  ·rename_i v' hv;cases he;obtain⟨h1,h2⟩:=D3n (dst:=dst) (ty:=ty) (pos:=pos) (B4:=B4) (gd:=gd) hT hS hG hv;exact⟨h1,A6d h2⟩
  ·obtain⟨h1,h2⟩:=D0y (ρ:=ρ) (D:=D) (fr:=fr) (N:=N) (dst:=dst) (ty:=ty) (pos:=pos) (B4:=B4) (gd:=gd) hT he;exact⟨h1,A6d h2⟩
 ·split at he
  ·rename_i a ha;split at he
   ·rename_i b hb;obtain⟨h1,h2⟩:=D9f (dst:=dst) (ty:=ty) (pos:=pos) (B4:=B4) (gd:=gd) hT (D5 hS hG ha).2 (D5 hS hG ha).1 (D5 hS hG hb).2 he;exact⟨h1,A6d h2⟩
   ·cases he
  ·cases he
 ·split at he
  ·rename_i a ha;split at he
   ·rename_i b hb;split at he
    ·rename_i v' hv;cases he;obtain⟨h1,h2⟩:=ixAt_ok (D:=D) (dst:=dst) (ty:=ty) (pos:=pos) (B4:=B4) (gd:=gd) hT (D5 hS hG ha).2 (D5 hS hG hb).2 hv;exact⟨h1,A6d h2⟩
    ·obtain⟨h1,h2⟩:=E6c (dst:=dst) (ty:=ty) (pos:=pos) (B4:=B4) (gd:=gd) hT (D5 hS hG ha).2 (D5 hS hG ha).1 (D5 hS hG hb).2 he;exact⟨h1,A6d h2⟩
   ·cases he
  ·cases he
 ·rename_i args ts;split at he
  ·rename_i x t ha ht;split at he
   ·rename_i a hx;have ea:args=#[x]:=F1w ha;have et:ts=#[t]:=F1w ht;subst ea;subst et;split at he
    ·rename_i v' hv';cases he;obtain⟨h1,h2⟩:=lenV_ok (D:=D) (dst:=dst) (ty:=ty) (pos:=pos) (B4:=B4) (gd:=gd) hT (D5 hS hG hx).2 hv';exact⟨h1,A6d h2⟩
    ·exact D9m hT hL (D5 hS hG hx).2 (D5 hS hG hx).1 he
   ·cases he
  ·cases he
 ·split at he
  ·rename_i vs hvs;obtain⟨h1,h2⟩:=evMM_ok (D:=D) (dst:=dst) (ty:=ty) (pos:=pos) (B4:=B4) (gd:=gd) hT (A5d hS hG hvs).2 he;exact⟨h1,A6d h2⟩
  ·cases he
 ·split at he
  ·rename_i a ha;obtain⟨h1,h2⟩:=fldV_ok (dst:=dst) (ty:=ty) (pos:=pos) (B4:=B4) (gd:=gd) hT (D5 hS hG ha).2 (D5 hS hG ha).1 he;exact⟨h1,A6d h2⟩
  ·cases he
 ·split at he
  ·rename_i a ha;split at he
   ·rename_i v' hv';cases he;obtain⟨h1,h2⟩:=conv_ok (D:=D) (dst:=dst) (ty:=ty) (pos:=pos) (B4:=B4) (gd:=gd) hT (D5 hS hG ha).2 hv';exact⟨h1,A6d h2⟩
   ·exact D0x hT hL (D5 hS hG ha).2 he
  ·cases he
 ·obtain⟨h1,h2⟩:=D0t (dst:=dst) (ty:=ty) (pos:=pos) (B4:=B4) (gd:=gd) hT hS hG hL he;exact⟨h1,A6d h2⟩
 ·split at he
  ·rename_i v' hv;cases he;obtain⟨h1,h2⟩:=D0r (dst:=dst) (ty:=ty) (pos:=pos) (B4:=B4) (gd:=gd) hT hS hG hv;exact⟨h1,A6d h2⟩
  ·split at he
   ·rename_i v' hv;cases he;obtain⟨h1,h2⟩:=D0n (dst:=dst) (ty:=ty) (pos:=pos) (B4:=B4) (gd:=gd) hT hS hG hv;exact⟨h1,A6d h2⟩
   ·split at he
    ·rename_i v' hv;cases he;obtain⟨h1,h2⟩:=D0p (dst:=dst) (ty:=ty) (pos:=pos) (B4:=B4) (gd:=gd) hT hS hG hL hv;exact⟨h1,A6d h2⟩
    ·obtain⟨h1,h2⟩:=D0q (dst:=dst) (ty:=ty) (pos:=pos) (B4:=B4) (gd:=gd) hT hS hG he;exact⟨h1,A6d h2⟩
 ·split at he
  ·rename_i v' hv';cases he;obtain⟨h1,h2⟩:=C1n (dst:=dst) (ty:=ty) (pos:=pos) (B4:=B4) (gd:=gd) hT hS hG hv';exact⟨h1,A6d h2⟩
  ·split at he
   ·rename_i v' hv';cases he;obtain⟨h1,h2⟩:=E6d (dst:=dst) (ty:=ty) (pos:=pos) (B4:=B4) (gd:=gd) hT hS hG hv';exact⟨h1,A6d h2⟩
   ·obtain⟨h1,h2⟩:=E6e (dst:=dst) (ty:=ty) (pos:=pos) (B4:=B4) (gd:=gd) hT hS hG he;exact⟨h1,A6d h2⟩
 ·obtain⟨h1,h2⟩:=C1n (dst:=dst) (ty:=ty) (pos:=pos) (B4:=B4) (gd:=gd) hT hS hG he;exact⟨h1,A6d h2⟩
def B4r(x:Option (VV×VO))(h:VH)(n:Nat):Option Eff:=
 match x with
 |some (v,vo)=>some ⟨some v,set n (false,vo) h,n+1⟩
 |none=>none
def E1n(x:Option VV)(h:VH)(n:Nat):Option Eff:=
 match x with
 |some v=>some ⟨some v,h,n⟩
 |none=>none
def evOp(T:F7)(N G:Nat)(cal:N8)(f:Tr VV)(h:VH)(n:Nat)(o:Op):Option Eff:=
 match o with
 | .store t x y=>C3x T N G f t x y h n
 | .call ⟨.value (.func g),args,_⟩=>(match C2h N G f args.toList with
   |some vs=>cal (.fn g) vs h n
   |none=>none)
 | .call ⟨.value x,args,_⟩=>(match evO N G f x with
   |some (.fn (.func g) fs cs)=>(match C2h N G f args.toList with
    |some vs=>cal (.fn g) (fs++vs++cs) h n
    |none=>none)
   |some (.yld b)=>(match C2h N G f args.toList with
    |some vs=>cal (.yld b) vs h n
    |none=>none)
   |_=>none)
 | .call ⟨.builtin .append,args,ts⟩=>(match args.toList,ts.toList with
   |[x,y],[t,tx]=>(match evO N G f x with
    |some a=>(match evO N G f y with
     |some b=>(match B7u T t tx a b h n with
      |some e=>some e
      |none=>B4r (D2k T t tx a b n) h n)
     |none=>none)
    |none=>none)
   |_,_=>none)
 | .call ⟨.builtin .clear,args,ts⟩=>(match args.toList,ts.toList with
   |[x],[t]=>(match evO N G f x with
    |some a=>C4b T t a h n
    |none=>none)
   |_,_=>none)
 | .mapUpdate t x y z=>D5d T N G f t x y z h n
 | .range t x=>B4r (B7n T N G f t x h n) h n
 | .next x isS=>D2f N G f x isS h n
 | .insert t x y z=>D5d T N G f t x y z h n
 | .makeMap t r=>B4r (A8p T N G f n (.makeMap t r)) h n
 | .makeSlice t x y=>B4r (A8p T N G f n (.makeSlice t x y)) h n
 | .convert s d x=>(match B4r (A8p T N G f n (.convert s d x)) h n with
   |some e=>some e
   |none=>E1n (A6r T N G f h (.convert s d x)) h n)
 | .alloc t=>B4r (A8p T N G f n (.alloc t)) h n
 | .box t x=>B4r (A8p T N G f n (.box t x)) h n
 | .buildSlice t len parts=>B4r (A8p T N G f n (.buildSlice t len parts)) h n
 |o=>E1n (A6r T N G f h o) h n
theorem A7r(hT:T.ok P)(hS:G5 ρ D f fr)(hG:Glob Γ ρ D G)(hL:X7 ρ D h i L)(hD:X2 D n){o:Oper}{e:Eff}(he:B4r (A8p T N G f n o.op) h n=some e):P3 P N o fr i L (G3 ρ D n e):=by
 unfold B4r at he;split at he
 ·rename_i v vo hv;cases he;exact B6y hL hD.not (C9g hT hS hG hD.not hv)
 ·cases he
theorem valE_ok(hT:T.ok P)(hS:G5 ρ D f fr)(hG:Glob Γ ρ D G)(hL:X7 ρ D h i L){o:Oper}{e:Eff}(he:E1n (A6r T N G f h o.op) h n=some e):P3 P N o fr i L (G3 ρ D n e):=by
 unfold E1n at he;split at he
 ·rename_i v hv;cases he;obtain⟨h1,h2⟩:=B0p hT hS hG hL hv;unfold LV at h2;exact M4 (fun w hw=>h2 w hw) (Y6 hL h1)
 ·cases he
theorem D6k(hT:T.ok P)(hcal:CalOk P Γ G cal)(hS:G5 ρ D f fr)(hG:Glob Γ ρ D G)(hL:X7 ρ D h i L)(hD:X2 D n){o:Oper}{e:Eff}(he:evOp T N G cal f h n o.op=some e):P3 P N o fr i L (G3 ρ D n e):=by
 obtain⟨dst,op,ty,pos,B4,gd⟩:=o;simp only at he;unfold evOp at he;split at he
 ·exact D3g hT hS hG hL hD he
 ·split at he
  ·rename_i vs hvs;obtain⟨h1,h2⟩:=A5d hS hG hvs;rcases hcal.fn _ _ _ _ _ he ρ D i L hD hG hL h1 with⟨h3,h4⟩|h3
   ·exact D2 h3 h2 h4 fun _ _ _ _ k=>k
   ·refine F5 fun w hw=>?_
    obtain⟨v,w',i',L',k1,k2⟩:=h3 w hw;refine⟨v,w',i',L',?_,k2⟩;have e2:∀(as:Array Operand),as.map (ev N fr)=(as.toList.map (ev N fr)).toArray:=fun as=>F1w (by simp)
    rw[←h2] at k1;simp only[execOp,resolve,ev,Deferred.ofValue,invoke,e2];simp;simp[k1]
  ·cases he
 ·rename_i x args ats hne;split at he
  ·rename_i g fs cs hx;split at he
   ·rename_i vs hvs;obtain⟨h1,h2⟩:=A5d hS hG hvs;obtain⟨x1,x2⟩:=D5 hS hG hx;simp only[C2] at x2;simp only[VV.lt] at x1
    have e1:C3 ρ (fs++vs++cs)=(C3 ρ fs).toArray.toList++args.toList.map (ev N fr)++(C3 ρ cs).toArray.toList:=by
     rw[V6,V6,←h2]
    rcases hcal.fn _ _ _ _ _ he ρ D i L hD hG hL (A5b (A5b x1.1 h1) x1.2) with⟨h3,h4⟩|h3
    ·exact C1y x2 h3 e1.symm h4 fun _ _ _ _ k=>k
    ·refine F5 fun w hw=>?_
     obtain⟨v,w',i',L',k1,k2⟩:=h3 w hw;refine⟨v,w',i',L',?_,k2⟩;rw[e1] at k1;have e2:∀(as:Array Operand),(C3 ρ fs).toArray++(as.map (ev N fr)++(C3 ρ cs).toArray)=((C3 ρ fs).toArray.toList++as.toList.map (ev N fr)++(C3 ρ cs).toArray.toList).toArray:=fun as=>F1w (by simp)
     simp[execOp,resolve,x2,Deferred.ofValue,invoke];rw[e2,k1]
   ·cases he
  ·rename_i b hx;split at he
   ·rename_i vs hvs;obtain⟨h1,h2⟩:=A5d hS hG hvs;obtain⟨x1,x2⟩:=D5 hS hG hx;simp only[C2] at x2;simp only[VV.lt] at x1;exact C1w x2 h2 (hcal.yld _ _ _ _ _ he ρ D i L hD hG hL x1 h1) fun _ _ _ _ k=>k
   ·cases he
  ·cases he
 ·rename_i args ts;split at he
  ·rename_i x y t tx hargs hts;split at he
   ·rename_i a ha;split at he
    ·rename_i b hb;have ea:args=#[x,y]:=F1w hargs;have et:ts=#[t,tx]:=F1w hts;subst ea;subst et;split at he
     ·rename_i e' he';cases he;exact D0z hT hL hD (D5 hS hG ha).2 (D5 hS hG hb).2 (D5 hS hG ha).1 (D5 hS hG hb).1 he'
     ·unfold B4r at he;split at he
      ·rename_i v vo hv;cases he;exact B6y hL hD.not (D9n hT (D5 hS hG ha).2 (D5 hS hG hb).2 hv)
      ·cases he
    ·cases he
   ·cases he
  ·cases he
 ·rename_i args ts;split at he
  ·rename_i x t hargs hts;split at he
   ·rename_i a ha;have ea:args=#[x]:=F1w hargs;have et:ts=#[t]:=F1w hts;subst ea;subst et;exact D3m hT hL (D5 hS hG ha).2 he
   ·cases he
  ·cases he
 ·exact(C9f hT hS hG hL he).1
 ·unfold B4r at he;split at he
  ·rename_i v vo hv;cases he;exact B6y hL hD.not (D0v hT hS hG hL hD.not hv)
  ·cases he
 ·exact D9j hS hG hL he
 ·exact(C9f hT hS hG hL he).2
 ·exact A7r (o:=⟨dst,.makeMap _ _,ty,pos,B4,gd⟩) hT hS hG hL hD he
 ·exact A7r (o:=⟨dst,.makeSlice _ _ _,ty,pos,B4,gd⟩) hT hS hG hL hD he
 ·split at he
  ·rename_i e' he';cases he;exact A7r (o:=⟨dst,.convert _ _ _,ty,pos,B4,gd⟩) hT hS hG hL hD he'
  ·exact valE_ok (o:=⟨dst,.convert _ _ _,ty,pos,B4,gd⟩) hT hS hG hL he
 ·exact A7r (o:=⟨dst,.alloc _,ty,pos,B4,gd⟩) hT hS hG hL hD he
 ·exact A7r (o:=⟨dst,.box _ _,ty,pos,B4,gd⟩) hT hS hG hL hD he
 ·exact A7r (o:=⟨dst,.buildSlice _ _ _,ty,pos,B4,gd⟩) hT hS hG hL hD he
 ·unfold E1n at he;split at he
  ·rename_i v hv;cases he;obtain⟨h1,h2⟩:=B0p (o:=⟨dst,_,ty,pos,B4,gd⟩) hT hS hG hL hv;unfold LV at h2;exact M4 (fun w hw=>h2 w hw) (Y6 hL h1)
  ·cases he
def gvV(N:Nat)(f:Tr VV)(all:List Oper)(j:Nat):Option (Option Bool):=
 match nth all j with
 |some o=>(match o.dst with
  |some d=>bif F0e d N then(match get d f with
   |some (.bool b)=>some (some b)
   |some (.tup _)=>some none
   |_=>none) else none
  |none=>none)
 |none=>none
def C5n(N:Nat)(f:Tr VV)(all:List Oper)(o:Oper):Option Bool:=
 match o.guard with
 |none=>some true
 |some (j,want)=>(match gvV N f all j with
  |some (some b)=>some (b==want)
  |some none=>some false
  |none=>none)
theorem E3z(hS:G5 ρ D f fr){all:List Oper}{j:Nat}{b:Option Bool}(h:gvV N f all j=some b):gv N fr all j=b:=by
 unfold gvV at h;unfold gv;rw[W5] at h;split at h
 ·rename_i o' ho';split at h
  ·rename_i d hd;simp only[ho',Option.bind_some,hd];cases hb:F0e d N with
   |false=>rw[hb] at h;cases h
   |true=>
    rw[hb] at h;simp only[cond_true] at h⊢;split at h
    ·rename_i q hq;cases h;rw[(hS d _ hq).2];simp only[C2]
    ·rename_i q hq;cases h;rw[(hS d _ hq).2];simp only[C2]
    ·cases h
  ·cases h
 ·cases h
theorem A1k(hS:G5 ρ D f fr){all:List Oper}{o:Oper}{b:Bool}(h:C5n N f all o=some b):P9 N fr all o=b:=by
 unfold C5n at h;unfold P9;split at h
 ·rename_i hg;cases h;simp only[hg]
 ·rename_i j want hg;simp only[hg];split at h
  ·rename_i c hc;cases h;simp only[E3z hS hc]
  ·rename_i hc;cases h;simp only[E3z hS hc]
  ·cases h
def B5y(dst:Option Nat)(v:Option VV)(f:Tr VV):Tr VV:=
 match dst,v with
 |some d,some v=>set d v f
 |some d,none=>del d f
 |none,_=>f
theorem C8u(hS:G5 ρ D f fr){dst:Option Nat}{v:Option VV}{u:Value}(hv:∀w,v=some w→w.lt D∧u=C2 ρ w):G5 ρ D (B5y dst v f) (F3 fr dst u):=by
 unfold B5y;cases dst with
 |none=>exact hS
 |some d=>
  cases v with
  |none=>
   intro t w hw;obtain⟨h1,h2⟩:=A1n hw;rw[show F3 fr (some d) u t=fr t from M8 fr u h1];exact hS t w h2
  |some w=>
   obtain⟨h1,rfl⟩:=hv w rfl;exact hS.upd h1
def B6a(T:F7)(N G:Nat)(cal:N8)(all:List Oper):List Oper→Tr VV→VH→Nat→Option (Tr VV×VH×Nat)
 |[],f,h,n=>some (f,h,n)
 |o::r,f,h,n=>(match C5n N f all o with
  |some true=>(match evOp T N G cal f h n o.op with
   |some e=>B6a T N G cal all r (B5y o.dst e.v f) e.h e.n
   |none=>fl _ 0)
  |some false=>B6a T N G cal all r (B5y o.dst (some (.tup [])) f) h n
  |none=>fl _ 0)
def Aft(ρ:Loc)(D:J8)(n:Nat)(s:Tr VV×VH×Nat)(fr':Fr)(i':Imm)(L':SH):Prop:=∃ρ',Ext D ρ ρ'∧n≤s.2.2∧G5 ρ' (D.upto n s.2.2) s.1 fr'∧X7 ρ' (D.upto n s.2.2) s.2.1 i' L'
theorem A4c{D:J8}{n m k:Nat}(h1:n≤m)(h2:m≤k):((D.upto n m).upto m k).le (D.upto n k):=fun b hb=>by
 rcases hb with(hb|hb)|hb
 ·exact .inl hb
 ·exact .inr ⟨hb.1,by omega⟩
 ·exact .inr ⟨by omega,hb.2⟩
theorem G5.mono{D':J8}(h1:G5 ρ D f fr)(hD:D.le D'):G5 ρ D' f fr:=fun t v hv=>⟨VV.lt_mono hD v (h1 t v hv).1,(h1 t v hv).2⟩
theorem Aft.step{ρ ρ':Loc}{D:J8}{n m:Nat}{s:Tr VV×VH×Nat}{fr':Fr}{i':Imm}{L':SH}(h:Aft ρ' (D.upto n m) m s fr' i' L')(e:Ext D ρ ρ')(hm:n≤m):Aft ρ D n s fr' i' L':=by
 obtain⟨ρ2,h1,h2,h3,h4⟩:=h;exact⟨ρ2,e.trans h1 (D.le_upto n m),Nat.le_trans hm h2,h3.mono (A4c hm h2),h4.mono (A4c hm h2)⟩
theorem B0q(hT:T.ok P)(hcal:CalOk P Γ G cal){all:List Oper}{s:Tr VV×VH×Nat}:∀{r:List Oper}{ρ:Loc}{D:J8}{n:Nat}{f:Tr VV}{h:VH}{fr:Fr}{i:Imm}{L:SH}(_:G5 ρ D f fr)(_:Glob Γ ρ D G)(_:X7 ρ D h i L)(_:X2 D n),B6a T N G cal all r f h n=some s→RS P all N r fr i L (Aft ρ D n s)
 |[],ρ,D,n,f,h,fr,i,L,hS,hG,hL,hD,he=>by
  cases he;exact E4g ⟨ρ,Ext.refl D ρ,E9q n,hS.mono (D.le_upto n n),hL.mono (D.le_upto n n)⟩
 |o::r,ρ,D,n,f,h,fr,i,L,hS,hG,hL,hD,he=>by
  simp only[B6a] at he;split at he
  ·rename_i hg;split at he
   ·rename_i e hop;refine K5 (A1k hS hg) (P3.mono (D6k hT hcal hS hG hL hD hop) ?_);rintro u i' L' _ ⟨ρ',h1,h2,h3,h4⟩;refine B8a (B0q hT hcal (C8u (hS.ext h1 (D.le_upto n e.n)) h4) (hG.ext h1 (D.le_upto n e.n)) h3 (hD.upto h2) he) fun fr' i'' L'' k=>k.step h1 h2
   ·cases he
  ·rename_i hg;refine D7f (A1k hS hg) (B0q hT hcal (C8u hS fun w hw=>by cases hw;simp[VV.lt,C5,C2,C3,undef]) hG hL hD he)
  ·cases he
end
end
noncomputable section
open Go Go.Eng
def eqCap:Cap→Cap→Bool
 | .fix a,.fix b=>E9p a b
 | .rest a,.rest b=>E9p a b
 |_,_=>false
theorem E6j:∀{a b:Cap},eqCap a b=true→a=b
 | .fix _,.fix _,h=>congrArg _ (E9m h)
 | .rest _,.rest _,h=>congrArg _ (E9m h)
 | .fix _,.rest _,h=>by cases h
 | .rest _,.fix _,h=>by cases h
mutual
def A1h:VV→VV→Bool
 | .bool a,w=>(match w with| .bool b=>decide (a=b)|_=>false)
 | .int k n,w=>(match w with| .int k' n'=>decide (k=k')&&decide (n=n')|_=>false)
 | .str s,w=>(match w with| .str t=>decide (s=t)|_=>false)
 | .nilp,w=>(match w with| .nilp=>true|_=>false)
 | .ptr b o,w=>(match w with| .ptr b' o'=>E9p b b'&&E9p o o'|_=>false)
 | .nils,w=>(match w with| .nils=>true|_=>false)
 | .sl b o l c,w=>(match w with| .sl b' o' l' c'=>E9p b b'&&E9p o o'&&E9p l l'&&eqCap c c'|_=>false)
 | .sle b o p i,w=>(match w with| .sle b' o' p' i'=>E9p b b'&&E9p o o'&&E9p p p'&&E9p i i'|_=>false)
 | .nilm,w=>(match w with| .nilm=>true|_=>false)
 | .map b,w=>(match w with| .map b'=>E9p b b'|_=>false)
 | .fn f fs cs,w=>(match w with| .fn f' fs' cs'=>decide (f=f')&&B4t fs fs'&&B4t cs cs'|_=>false)
 | .nilf,w=>(match w with| .nilf=>true|_=>false)
 | .yld b,w=>(match w with| .yld b'=>E9p b b'|_=>false)
 | .iface t v,w=>(match w with| .iface t' v'=>E9p t t'&&A1h v v'|_=>false)
 | .nili,w=>(match w with| .nili=>true|_=>false)
 | .agg l,w=>(match w with| .agg l'=>B4t l l'|_=>false)
 | .tup l,w=>(match w with| .tup l'=>B4t l l'|_=>false)
def B4t:List VV→List VV→Bool
 |[],w=>(match w with|[]=>true|_=>false)
 |a::l,w=>(match w with|b::m=>A1h a b&&B4t l m|_=>false)
end
mutual
theorem A7t:∀(a b:VV),A1h a b=true→a=b
 | .bool a,w,h=>by cases w<;>simp_all [A1h]
 | .int k n,w,h=>by cases w<;>simp_all [A1h]
 | .str s,w,h=>by cases w<;>simp_all [A1h]
 | .nilp,w,h=>by cases w<;>simp_all [A1h]
 | .ptr b o,w,h=>by cases w<;>simp_all [A1h]
 | .nils,w,h=>by cases w<;>simp_all [A1h]
 | .sl b o l c,w,h=>by
   cases w<;>simp only[A1h,Bool.false_eq_true] at h;simp only[E9j] at h;obtain⟨⟨⟨h1,h2⟩,h3⟩,h4⟩:=h;rw[E9m h1,E9m h2,E9m h3,E6j h4]
 | .sle b o p i,w,h=>by cases w<;>simp_all [A1h]
 | .nilm,w,h=>by cases w<;>simp_all [A1h]
 | .map b,w,h=>by cases w<;>simp_all [A1h]
 | .fn f fs cs,w,h=>by
   cases w<;>simp only[A1h,Bool.false_eq_true] at h;simp only[E9j,decide_eq_true_eq] at h;obtain⟨⟨h1,h2⟩,h3⟩:=h;rw[h1,A2x _ _ h2,A2x _ _ h3]
 | .nilf,w,h=>by cases w<;>simp_all [A1h]
 | .yld b,w,h=>by cases w<;>simp_all [A1h]
 | .iface t v,w,h=>by
   cases w<;>simp only[A1h,Bool.false_eq_true] at h;simp only[E9j] at h;rw[E9m h.1,A7t _ _ h.2]
 | .nili,w,h=>by cases w<;>simp_all [A1h]
 | .agg l,w,h=>by
   cases w<;>simp only[A1h,Bool.false_eq_true] at h;rw[A2x _ _ h]
 | .tup l,w,h=>by
   cases w<;>simp only[A1h,Bool.false_eq_true] at h;rw[A2x _ _ h]
theorem A2x:∀(a b:List VV),B4t a b=true→a=b
 |[],w,h=>by cases w<;>simp_all [B4t]
 |a::l,w,h=>by
  cases w<;>simp only[B4t,Bool.false_eq_true] at h;simp only[E9j] at h;rw[A7t _ _ h.1,A2x _ _ h.2]
end
def Y0(f:Tr VV):List Nat→Tr VV
 |[]=>.lf
 |t::l=>(match get t f with
  |some v=>set t v (Y0 f l)
  |none=>Y0 f l)
theorem A4d{f:Tr VV}{t:Nat}{v:VV}:∀{us:List Nat},get t (Y0 f us)=some v→t∈us∧get t f=some v
 |[],h=>by rw[Y0,A4v] at h;cases h
 |u::l,h=>by
  simp only[Y0] at h;split at h
  ·rename_i w hw;rcases A1m h with⟨rfl,rfl⟩|⟨_,h⟩
   ·exact⟨by simp,hw⟩
   ·exact⟨E9u _ (A4d h).1,(A4d h).2⟩
  ·exact⟨E9u _ (A4d h).1,(A4d h).2⟩
structure DS where
 f:Tr VV
 hb:VH
 h:VH
 n:Nat
 r:Nat
structure SR where
 v:Option VV
 w:Option (Nat×VO)
 hb:VH
 h:VH
 n:Nat
 r:Nat
section
variable(T:F7)(N G:Nat)(cal:N8)(all:List Oper)(lim:Nat)
def Z3(p:PE)(o:Oper)(f:Tr VV)(s:DS):Option SR:=
 match C5n N f all o with
 |some false=>(match p.k with
  |0=>some ⟨some (.tup []),none,s.hb,s.h,s.n,s.r⟩
  |1=>some ⟨some (.tup []),none,s.hb,s.h,s.n,s.r⟩
  |2=>some ⟨some (.tup []),none,s.hb,s.h,s.n,s.r⟩
  |_=>some ⟨some (.tup []),none,s.h,s.h,s.n,s.r⟩)
 |some true=>(match p.k with
  |0=>(match A6r T N G f .lf o.op with
   |some v=>some ⟨some v,none,s.hb,s.h,s.n,s.r⟩
   |none=>none)
  |1=>(match A6r T N G f s.hb o.op with
   |some v=>some ⟨some v,none,s.hb,s.h,s.n,s.r⟩
   |none=>none)
  |2=>bif F0e s.r lim then(match A8p T N G f s.r o.op with
   |some (v,vo)=>some ⟨some v,some (s.r,vo),s.hb,set s.r (false,vo) s.h,s.n,s.r+1⟩
   |none=>none) else none
  |_=>(match evOp T N G cal f s.h s.n o.op with
   |some e=>some ⟨e.v,none,e.h,e.h,e.n,s.r⟩
   |none=>none))
 |none=>none
def D8e(f:Tr VV)(h:VH)(x:Nat×List Nat):Bool:=
 match nth all x.1 with
 |some o=>(match C5n N (Y0 f x.2) all o with
  |some true=>(match o.dst with
   |some d=>(match get d f with
    |some v=>(match A6r T N G (Y0 f x.2) h o.op with
     |some v'=>A1h v' v
     |none=>false)
    |none=>false)
   |none=>false)
  |some false=>true
  |none=>false)
 |none=>false
def B4(o:Oper)(f:Tr VV)(q:SR):DS:=⟨B5y o.dst q.v f,q.hb,q.h,q.n,q.r⟩
def evD:List PE→DS→Option DS
 |[],s=>some s
 |p::l,s=>(match nth all p.j with
  |some o=>(match Z3 T N G cal all lim p o (Y0 s.f p.us) s with
   |some q=>bif p.re.all (D8e T N G all (B4 o s.f q).f q.hb) then evD l (B4 o s.f q) else fl _ 0
   |none=>fl _ 0)
  |none=>none)
end
def A6n(o:Oper):List Nat:=(o.after.toList.filter fun e=>Region.binds .any e).map (·.on)
def B9v(l:List Nat)(a:Nat):Bool:=l.any fun b=>E9p b a
theorem A3z{l:List Nat}{a:Nat}:B9v l a=true↔a∈l:=by
 unfold B9v;rw[List.any_eq_true];exact⟨fun⟨b,hb,e⟩=>by rw[←E9m e];exact hb,fun h=>⟨a,h,Nat.beq_refl a⟩⟩
def eqNs:List Nat→List Nat→Bool
 |[],[]=>true
 |a::l,b::m=>E9p a b&&eqNs l m
 |_,_=>false
theorem D6p:∀{l m:List Nat},eqNs l m=true→l=m
 |[],[],_=>rfl
 |a::l,b::m,h=>by
  simp only[eqNs,E9j] at h;rw[E9m h.1,D6p h.2]
 |[],_::_,h=>by cases h
 |_::_,[],h=>by cases h
def okPE(all:List Oper)(plan bef:List PE)(p:PE)(o:Oper):Bool:=
 p.anc.all (fun a=>(B9v (A6n o) a||bef.any fun q=>B9v (A6n o) q.j&&B9v q.anc a)&&bef.any fun q=>E9p q.j a)&&
 p.us.all (fun t=>plan.all fun q=> !M7 all q.j t||B9v p.anc q.j)&&
 bef.all (fun q=> !E9p q.j p.j&&(!B9v p.anc q.j||q.anc.all (B9v p.anc))&&
  (F0n p.k 2||B9v p.anc q.j||(E9p q.k 0||(E9p q.k 1&&p.re.any fun x=>E9p x.1 q.j&&eqNs x.2 q.us)))&&
  (!E9p p.k 1||F0n q.k 2||B9v p.anc q.j))
def D4z(all:List Oper)(plan:List PE):List PE→List PE→Bool
 |_,[]=>true
 |bef,p::l=>(match nth all p.j with
  |some o=>okPE all plan bef p o&&D4z all plan (bef++[p]) l
  |none=>false)
def D5a(all:List Oper)(plan:List PE):Bool:=
 plan.all fun p=>match nth all p.j with
  |some o=>(match o.dst with
   |some d=>plan.all fun q=> !M7 all q.j d||E9p p.j q.j
   |none=>true)
  |none=>true
def C2y:List PE→Nat
 |[]=>0
 |p::l=>bif E9p p.k 2 then Nat.succ (C2y l) else C2y l
def C2r(all:List Oper)(plan:List PE)(tail:List Nat):Bool:=A9t all (plan.map (·.j)) tail []&&D4z all plan [] plan&&D5a all plan
end
end Go.Eng.Ev
