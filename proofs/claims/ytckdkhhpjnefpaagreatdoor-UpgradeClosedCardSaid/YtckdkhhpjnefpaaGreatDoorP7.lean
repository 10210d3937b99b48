/- What the proof leans on. No condition. -/
import Derived.Test.YtckdkhhpjnefpaaGreatDoorP6
import Derived.Shelf.Small.Strs
import Derived.Shelf.Strings.Search3
import Derived.Ground.GgsProg
import Derived.Ground.Names2Prog
import Derived.Ground.SlgnProg
import Derived.Test.YtckdkhhpjnefpaaGreatDoorProg
import Derived.Shelf.Strings.OnBuilder
import Derived.Shelf.LaysM
import Derived.Shelf.GgSortFunc.Tiny
set_option maxHeartbeats 4000000
set_option linter.unusedVariables false
set_option linter.deprecated false
set_option linter.unusedSimpArgs false
set_option linter.unusedSectionVars false
open List renaming getElem?_append_left→E9t,getElem?_append_right→F0r,getElem?_drop→F1e,getElem?_eq_some_iff→E9e,mem_of_getElem?→E9g,length_append→E9h,mem_append→E9r,perm_append_comm_assoc→E9x,append_assoc→F0p,length_map→F1t,mem_iff_getElem?→F0j,toArray→E9d,mem_cons→F0b,mem_cons_self→F0g,map_cons→F0w
open Go.Proofs.Tryz renaming prog→E9c
open Go.Value renaming int→F0u,slice→F0h
open Nat renaming zero_le→E9k,le_refl→E9q,lt_succ_iff_lt_or_eq→F0m,le_of_ble_eq_true→E9w,zero_add→F1b
open ByteArray renaming mk→F0y,empty→E9f
open Go.Obj renaming cells→E9n
namespace Clo
theorem ins_at{α:Type}{ds:List α}{a:Nat}{d:α}(ha:a≤ds.length)(j:Nat):(ds.take a++d::ds.drop a)[j]?=if j<a then ds[j]? else if j=a then some d else ds[j-1]?:=by
 have hl:(ds.take a).length=a:=by simp;omega
 by_cases h1:j<a
 ·rw[if_pos h1,E9t (by omega),List.getElem?_take_of_lt h1]
 ·rw[if_neg h1,F0r (by omega),hl];by_cases h2:j=a
  ·subst h2;simp
  ·rw[if_neg h2];obtain⟨q,rfl⟩:∃q,j=a+q+1:=⟨j-a-1,by omega⟩;rw[show a+q+1-a=q+1 by omega,List.getElem?_cons_succ,F1e];congr 1
theorem Ok.one{ds:List Dv}(h:Ok ds){j k:Nat}{d e:Dv}(hd:ds[j]?=some d)(he:ds[k]?=some e)(h2:d.index=e.index):j=k:=by
 have h3:=h.uniq j d hd;rw[h2,h.uniq k e he] at h3;cases h3;rfl
theorem Ok.above{ds:List Dv}(h:Ok ds){j k:Nat}{d e:Dv}(hd:ds[k]?=some d)(he:ds[j]?=some e)(h2:e.index=d.parent):j<k:=
 h.up k d hd j (by rw[←h2];exact h.uniq j e he)
theorem Ok.mk'{ds:List Dv}(h1:∀(j k:Nat)(d e:Dv),ds[j]?=some d→ds[k]?=some e→d.index=e.index→j=k)(h2:∀(k j:Nat)(d e:Dv),ds[k]?=some d→ds[j]?=some e→e.index=d.parent→j<k):Ok ds:=by
 refine⟨fun k d hd=>?_,fun k d hd p hp=>?_⟩
 ·cases hf:find ds d.index with
  |none=>exact absurd rfl (find_none hf k d hd)
  |some q=>
   obtain⟨e,he,hei⟩:=find_some hf;rw[h1 q k e d he hd hei]
 ·obtain⟨e,he,hei⟩:=find_some hp;exact h2 k p d e hd he hei
theorem Ok.ins{ds:List Dv}{a:Nat}{d:Dv}(h:Ok ds)(ha:a≤ds.length)(hnew:∀(k:Nat)(e:Dv),ds[k]?=some e→e.index≠d.index)(hpar:∀(k:Nat)(e:Dv),ds[k]?=some e→e.parent≠d.index)(hself:d.parent≠d.index)(hp:∀(k:Nat)(e:Dv),ds[k]?=some e→e.index=d.parent→k<a):Ok (ds.take a++d::ds.drop a):=by
 have cs:∀(j:Nat)(e:Dv),(ds.take a++d::ds.drop a)[j]?=some e→(j<a∧ds[j]?=some e)∨(j=a∧e=d)∨(a<j∧ds[j-1]?=some e):=by
  intro j e hj;rw[ins_at ha] at hj;split at hj
  ·exact .inl ⟨‹_›,hj⟩
  ·split at hj
   ·cases hj;exact .inr (.inl ⟨‹_›,rfl⟩)
   ·exact .inr (.inr ⟨by omega,hj⟩)
 refine Ok.mk' (fun j k x y hx hy hi=>?_) (fun k j x y hx hy hi=>?_)
 ·rcases cs j x hx with⟨h1,h2⟩|⟨h1,rfl⟩|⟨h1,h2⟩<;>rcases cs k y hy with⟨h3,h4⟩|⟨h3,rfl⟩|⟨h3,h4⟩
  ·exact h.one h2 h4 hi
  ·exact absurd hi (hnew _ _ h2)
  ·have:=h.one h2 h4 hi;omega
  ·exact absurd hi.symm (hnew _ _ h4)
  ·omega
  ·exact absurd hi.symm (hnew _ _ h4)
  ·have:=h.one h2 h4 hi;omega
  ·exact absurd hi (hnew _ _ h2)
  ·have:=h.one h2 h4 hi;omega
 ·rcases cs k x hx with⟨h1,h2⟩|⟨h1,rfl⟩|⟨h1,h2⟩<;>rcases cs j y hy with⟨h3,h4⟩|⟨h3,rfl⟩|⟨h3,h4⟩
  ·exact h.above h2 h4 hi
  ·exact absurd hi.symm (hpar _ _ h2)
  ·have:=h.above h2 h4 hi;omega
  ·omega
  ·exact absurd hi.symm hself
  ·have:=hp _ _ h4 hi;omega
  ·have:=h.above h2 h4 hi;omega
  ·exact absurd hi.symm (hpar _ _ h2)
  ·have:=h.above h2 h4 hi;omega
theorem Ok.nil:Ok []:=⟨(fun k d h=>by cases h),(fun k d h=>by cases h)⟩
end Clo
namespace Go.Proofs.YtckdkhhpjnefpaaGreatDoor
open Go Go.Eng
structure Tr(B:Int)(ds:List Dev):Prop where
 ok:Clo.Ok (dvs ds)
 par:∀(k:Nat)(d:Dev),ds[k]?=some d→d.parent=0∨∃(j:Nat)(e:Dev),ds[j]?=some e∧e.index=d.parent
 ix:∀(k:Nat)(d:Dev),ds[k]?=some d→1≤d.index∧d.index≤B
theorem Tr.nil(B:Int):Tr B []:=⟨Clo.Ok.nil,(fun k d h=>by cases h),(fun k d h=>by cases h)⟩
theorem Tr.mono{B C:Int}{ds:List Dev}(h:Tr B ds)(hb:B≤C):Tr C ds:=⟨h.ok,h.par,fun k d hd=>⟨(h.ix k d hd).1,by have:=(h.ix k d hd).2;omega⟩⟩
theorem B7v{ds:List Dev}{k:Nat}{e:Clo.Dv}(h:(dvs ds)[k]?=some e):∃d,ds[k]?=some d∧e=⟨d.index,d.parent⟩:=by
 rw[A3m] at h;cases hd:ds[k]? with
 |none=>rw[hd] at h;cases h
 |some d=>rw[hd] at h;cases h;exact⟨d,rfl,rfl⟩
theorem Tr.ins{B:Int}{ds:List Dev}{a:Nat}{d:Dev}(h:Tr B ds)(ha:a≤ds.length)(hi:1≤d.index∧d.index≤B)(hnew:∀(k:Nat)(e:Dev),ds[k]?=some e→e.index≠d.index)(hpar:d.parent=0∨∃(j:Nat)(e:Dev),ds[j]?=some e∧e.index=d.parent)(hp:∀(k:Nat)(e:Dev),ds[k]?=some e→e.index=d.parent→k<a):Tr B (ds.take a++d::ds.drop a):=by
 have e0:dvs (ds.take a++d::ds.drop a)=(dvs ds).take a++⟨d.index,d.parent⟩::(dvs ds).drop a:=by
  simp[dvs,List.map_take,List.map_drop]
 refine⟨?_,fun k x hx=>?_,fun k x hx=>?_⟩
 ·rw[e0];refine h.ok.ins (by rw[C4f];exact ha) (fun k e he=>?_) (fun k e he=>?_) ?_ (fun k e he h2=>?_)
  ·obtain⟨x,hx,rfl⟩:=B7v he;exact hnew k x hx
  ·obtain⟨x,hx,rfl⟩:=B7v he;intro h3;rcases h.par k x hx with h4|⟨j,e,h4,h5⟩
   ·have:x.parent=d.index:=h3
    omega
   ·exact hnew j e h4 (h5.trans h3)
  ·intro h3;have h3:d.parent=d.index:=h3;rcases hpar with h4|⟨j,e,h4,h5⟩
   ·omega
   ·exact hnew j e h4 (h5.trans h3)
  ·obtain⟨x,hx,rfl⟩:=B7v he;exact hp k x hx h2
 ·have hin:∀(j:Nat)(e:Dev),ds[j]?=some e→∃j',(ds.take a++d::ds.drop a)[j']?=some e:=fun j e he=>by
   by_cases hj:j<a
   ·exact⟨j,by rw[Clo.ins_at ha,if_pos hj];exact he⟩
   ·exact⟨j+1,by rw[Clo.ins_at ha,if_neg (by omega),if_neg (by omega)];exact he⟩
  have key:∀y:Dev,(y.parent=0∨∃(j:Nat)(e:Dev),ds[j]?=some e∧e.index=y.parent)→y.parent=0∨∃(j:Nat)(e:Dev),(ds.take a++d::ds.drop a)[j]?=some e∧e.index=y.parent:=fun y hy=>by
   rcases hy with h1|⟨j,e,h1,h2⟩
   ·exact .inl h1
   ·obtain⟨j',h3⟩:=hin j e h1;exact .inr ⟨j',e,h3,h2⟩
  rw[Clo.ins_at ha] at hx;split at hx
  ·exact key x (h.par _ _ hx)
  ·split at hx
   ·cases hx;exact key _ hpar
   ·exact key x (h.par _ _ hx)
 ·rw[Clo.ins_at ha] at hx;split at hx
  ·exact h.ix _ _ hx
  ·split at hx
   ·cases hx;exact hi
   ·exact h.ix _ _ hx
theorem keyI:KeyT (F0u .i64) E9c 3:=KeyT.int A1 ⟨_,rfl,rfl⟩
structure SetM(es:List (Int×Value×Nat))(φ:Int→Prop):Prop where
 mem:∀x,(Q3 x es).isSome=true↔φ x
 val:∀x,(Q3 x es).getD (.agg #[])=.agg #[]
theorem SetM.nil{φ:Int→Prop}(h:∀x,¬φ x):SetM [] φ:=⟨fun x=>by simp[Q3,h],fun _=>rfl⟩
theorem SetM.put{es:List (Int×Value×Nat)}{φ:Int→Prop}(h:SetM es φ)(a:Int)(c:Nat):SetM (Z4 a (.agg #[]) c es) fun x=>φ x∨x=a:=by
 refine⟨fun x=>?_,fun x=>?_⟩<;>rw[C8y]
 ·by_cases e:x=a
  ·rw[if_pos e];simp[e]
  ·rw[if_neg e,h.mem x];simp[e]
 ·by_cases e:x=a
  ·rw[if_pos e];rfl
  ·rw[if_neg e];exact h.val x
theorem SetM.congr{es:List (Int×Value×Nat)}{φ ψ:Int→Prop}(h:SetM es φ)(e:∀x,φ x↔ψ x):SetM es ψ:=⟨fun x=>(h.mem x).trans (e x),h.val⟩
theorem setOf_t(v:Value)(l:List Int)(i:Imm)(L:SH)(hv:A0u i v l):
 E6 E9c 82 [v] i L fun r i' L'=>(∃b es c,r=.map (some b)∧i'.blk b=some (.map (P0 (F0u .i64) es) c)∧SetM es (· ∈l))∧L'=L:=by
 refine E6.state (K:=fun r i' L'=>∃b es c,r=.map (some b)∧L'=(b,.map (P0 (F0u .i64) es) c)::L∧SetM es (· ∈l)) ?_ ?_;rotate_left
 ·rintro u i' L' w _ hs ⟨b,es,c,rfl,rfl,hm⟩;obtain⟨h1,h2⟩:=hs.freeze;exact⟨_,_,h1,h2,⟨b,es,c,rfl,by simp[Imm.add],hm⟩,rfl⟩
 obtain⟨ao,cap,rfl,_⟩:=id hv.1;have hn:=hv.2;refine A5 Tryz.func82 rfl rfl (by simp) rfl ?_;repeat' (first|refine zp rfl ?_|refine zn ?_|refine zs [0,1,2] rfl ?_|refine K5 rfl (A5t (F0u .i64) (fun bm=>?_)))
 refine B1 [3,7,8,9] (fun m vs i' L'=>∃(k:Nat)(es:List (Int×Value×Nat))(c:Nat),m=l.length-k∧k≤l.length∧SetM es (· ∈l.take k)∧vs=[.map (some bm),.slice ao l.length cap,.int .i64 (l.length:Int),.int .i64 (k:Int)]∧i'=i∧L'=(bm,.map (P0 (F0u .i64) es) c)::L) l.length ⟨0,[],0,rfl,E9k _,SetM.nil (by simp),rfl,rfl,rfl⟩ ?_;rintro m g vs i' L' hi ⟨k,es,c,rfl,hk,hes,rfl,rfl,rfl⟩;by_cases hlt:k<l.length
 ·obtain⟨y,hy⟩:=zi l k hlt;obtain⟨b1,o1,c1,t1,z1,p1,e1,g1,q1⟩:=hv.at hy;cases e1;repeat' (first|refine zp rfl ?_|refine zn ?_|refine A2 rfl ?_|refine zs [3,4,5,6] rfl ?_|refine zt rfl rfl (by omega) rfl ?_|refine zx rfl rfl rfl (by omega) rfl ?_|refine zm g1 q1 rfl rfl rfl ?_|refine K5 rfl (A7k (kv:=F0u .i64) (a:=y) (k:=0) A1 rfl rfl rfl ⟨_,rfl,rfl⟩ keyI rfl rfl ?_)|refine zd rfl rfl (by omega) rfl ?_)
  refine⟨l.length-(k+1),by omega,k+1,_,_,rfl,by omega,(hes.put y _).congr fun x=>?_,rfl,rfl,rfl⟩;rw[List.take_add_one,hy];simp
 ·repeat' (first|refine zp rfl ?_|refine zn ?_|refine A0 rfl ?_|refine zs [3,7] rfl ?_|refine zf rfl rfl (by omega) rfl ?_)
  rw[List.take_of_length_le (by omega)] at hes;exact⟨bm,es,c,rfl,rfl,hes⟩
theorem D5b{φ:Int→Prop}(b c:Nat)(es:List (Int×Value×Nat))(x:Int)(i:Imm)(L:SH)(hm:SetM es φ)(hb:Has i L b (.map (P0 (F0u .i64) es) c)):
 E6 E9c 128 [.map (some b),.int .i64 x] i L fun r i' L'=>∃y,r=.bool y∧(y=true↔φ x)∧i'=i∧L'=L:=by
 refine YN.drop (R:=fun y=>y=true↔φ x) ?_;refine A5 Tryz.func128 rfl rfl (by simp) rfl ?_;repeat' (first|refine zp rfl ?_|refine zn ?_|refine A3 ?_|(refine D4 (D4f (kv:=F0u .i64) (a:=x) A1 rfl rfl ⟨_,rfl,rfl⟩ keyI Tryz.zeroValue177 hb) rfl ?_;rw[hm.val x])|refine C1 A1 rfl rfl (fun b5=>?_)|refine zw 0 rfl rfl rfl rfl ?_)
 exact⟨[_],_,rfl,hm.mem x,rfl,rfl⟩
theorem below_t(ao:Option Addr)(n cap b:Nat)(i:Imm)(L:SH):
 E6 E9c 81 [.agg #[.slice ao n cap],.map (some b)] i L fun r i' L'=>(∃b2 b3,r=.func (.func 127) #[] #[.pointer (some ⟨b2,0,none⟩),.pointer (some ⟨b3,0,none⟩)]∧i'.blk b2=some (.cells [.slice ao n cap].toArray 46 (0,0))∧i'.blk b3=some (.cells [.map (some b)].toArray 132 (0,0)))∧L'=L:=by
 refine A5 Tryz.func81 rfl rfl (by simp) rfl ?_;repeat' (first|refine zn ?_|(refine zr 0 ?_;(refine E4 rfl rfl (fun b2=>?_);refine M3 (fun i hi g2=>?_));(all_goals(refine E4 rfl rfl (fun b3=>?_);refine M3 (fun i hi g3=>?_);replace g2:=hi.blk _ _ g2));(all_goals refine zp rfl ?_);(all_goals refine zn ?_))|(refine zr 1 ?_;refine A6 T9 rfl ?_;(all_goals refine zp rfl ?_);(all_goals refine zn ?_)))
 exact⟨⟨b2,b3,rfl,g2,g3⟩,rfl⟩
open Classical in
noncomputable def A3u(cs:List Value)(φ:Nat→Prop):Nat→List (List Value)
 |0=>[]
 |k+1=>A3u cs φ k++(if φ k then [[.agg (nth 10 cs k).toArray]] else [])
theorem B6w{cs:List Value}{φ:Nat→Prop}{k:Nat}(h:φ k):A3u cs φ (k+1)=A3u cs φ k++[[.agg (nth 10 cs k).toArray]]:=by simp only[A3u,if_pos h]
theorem D6c{cs:List Value}{φ:Nat→Prop}{k:Nat}(h:¬φ k):A3u cs φ (k+1)=A3u cs φ k:=by simp only[A3u,if_neg h,List.append_nil]
theorem C0z(cs:List Value)(φ:Nat→Prop)(k:Nat):∀m,∃r,A3u cs φ (k+m)=A3u cs φ k++r
 |0=>⟨[],by simp⟩
 |m+1=>by
  obtain⟨r,hr⟩:=C0z cs φ k m;exact⟨_,by rw[show k+(m+1)=(k+m)+1 by omega,A3u,hr,F0p]⟩
theorem outD_at{cs:List Value}{φ:Nat→Prop}{k n:Nat}(h:φ k)(hk:k<n):(A3u cs φ n)[(A3u cs φ k).length]?=some [.agg (nth 10 cs k).toArray]:=by
 obtain⟨r,hr⟩:=C0z cs φ (k+1) (n-(k+1));rw[show k+1+(n-(k+1))=n by omega,B6w h] at hr;rw[hr,F0p,F0r (E9q _),Nat.sub_self];rfl
theorem C3m{cs:List Value}{φ:Nat→Prop}{d:List Value}:∀{n:Nat},d∈A3u cs φ n→∃k,k<n∧φ k∧d=[.agg (nth 10 cs k).toArray]
 |0,h=>by cases h
 |n+1,h=>by
  simp only[A3u,E9r] at h;rcases h with h|h
  ·obtain⟨k,h1,h2⟩:=C3m h;exact⟨k,by omega,h2⟩
  ·split at h
   ·rename_i hp;simp at h;exact⟨n,by omega,hp,h⟩
   ·cases h
def idxOf:List Value→Value
 |[.agg a]=>(a[0]?).getD undef
 |_=>undef
theorem B0m{i:Imm}{cs:List Value}{ds:List Dev}{φ:Nat→Prop}(h:DVc i cs ds):∀{n:Nat},n≤ds.length→(A3u cs φ n).map idxOf=I3 (K8 ds φ n)
 |0,_=>rfl
 |n+1,hn=>by
  have ih:=B0m (φ:=φ) h (n:=n) (by omega);obtain⟨d,hd⟩:=zi ds n (by omega);obtain⟨a,c,e,_⟩:=h.2 n d hd;by_cases hp:φ n
  ·rw[B6w hp,A7a hd hp,List.map_append,ih,T8];congr 1;rw[e];rfl
  ·rw[D6c hp,B0b hp,ih]
theorem Iter127(ao:Option Addr)(cap:Nat)(ds:List Dev)(cs:List Value)(S:Int→Prop)(es:List (Int×Value×Nat))(c b b2 b3:Nat)(i:Imm)(hs:Sl i (.slice ao ds.length cap) 10 ds.length cs)(hc:DVc i cs ds)(hn:ds.length≤256)(hm:SetM es S)(hb:i.blk b=some (.map (P0 (F0u .i64) es) c))
 (h2:i.blk b2=some (.cells [.slice ao ds.length cap].toArray 46 (0,0))) (h3:i.blk b3=some (.cells [.map (some b)].toArray 132 (0,0))):
 IterS E9c 127 [.pointer (some ⟨b2,0,none⟩),.pointer (some ⟨b3,0,none⟩)] (A3u cs (Clo.out (dvs ds) S) ds.length) i:=by
 intro i0 hi0 l J hy L R hJ;refine D4j Tryz.func127 rfl rfl (by simp) rfl ?_;have g2:=hi0.blk _ _ h2;repeat' (first|refine zp rfl ?_|refine zn ?_|refine zs [0,1] rfl ?_|refine K5 rfl (A5t (F0u .i64) (fun bm=>?_))|refine D4 (B0 A1 rfl (Has.imm g2) rfl) rfl ?_)
 refine B1 [0,2,4,9,10,11] (fun m vs i' L'=>∃(k:Nat)(es':List (Int×Value×Nat))(c':Nat)(L1:SH),m=ds.length-k∧k≤ds.length∧vs=[.func (.yield l) #[] #[],.pointer (some ⟨b3,0,none⟩),.map (some bm),.slice ao ds.length cap,.int .i64 (ds.length:Int),.int .i64 (k:Int)]∧SetM es' (fun x=>∃m,m<k∧Clo.out (dvs ds) S m∧∃e,(dvs ds)[m]?=some e∧e.index=x)∧J (A3u cs (Clo.out (dvs ds) S) k).length i' L1∧L'=(bm,.map (P0 (F0u .i64) es') c')::(L1++R)) ds.length ⟨0,[],0,L,rfl,E9k _,rfl,SetM.nil (by rintro x ⟨m,h,_⟩;omega),hJ,rfl⟩ ?_;clear g2;rintro m g vs i1 L' hi1 ⟨k,es',c',L1,rfl,hk,rfl,hes,hJk,rfl⟩;by_cases hlt:k<ds.length
 ·obtain⟨d,hd⟩:=zi ds k hlt;have hle:=hi0.trans hi1;have gb:=hle.blk _ _ hb;have g3:=hle.blk _ _ h3;obtain⟨ta,tc,e0,hda,hok⟩:=hc.2 k d hd;obtain⟨b1,o1,c1,t1,z1,p1,e1,g1,_,q1⟩:=Sl.nth (hs.le hle) hlt (by omega);cases e1;rw[e0] at q1;have h1:(dvs ds)[k]?=some ⟨d.index,d.parent⟩:=by rw[A3m,hd];rfl
  have hio:=hok.ix;have hpo:=hok.pa
  have hout:Clo.out (dvs ds) S k↔S d.index∨∃m,m<k∧Clo.out (dvs ds) S m∧∃e,(dvs ds)[m]?=some e∧e.index=d.parent:=by
   rw[Clo.out_iff];constructor
   ·rintro⟨e,he,h⟩;rw[h1] at he;cases he;exact h
   ·intro h;exact⟨_,h1,h⟩
  repeat' (first|refine zn ?_|refine A2 rfl ?_|refine zs [2,3] rfl ?_|refine zt rfl rfl (by omega) rfl ?_|refine zx rfl rfl rfl (by omega) rfl ?_|refine D4 (D9 (l:=W4 d (.slice ta d.attrs.length tc)) A1 rfl (Has.imm g1) rfl rfl rfl q1) rfl ?_|refine C1 A1 rfl rfl (fun b6=>?_)|refine zw 0 rfl rfl rfl rfl ?_)
  by_cases hO:Clo.out (dvs ds) S k
  ·have hat:=outD_at (cs:=cs) hO hlt;rw[e0] at hat
   have hs2:SetM (Z4 d.index (.agg #[]) c' es') (fun x=>∃m,m<k+1∧Clo.out (dvs ds) S m∧∃e,(dvs ds)[m]?=some e∧e.index=x):=(hes.put d.index c').congr fun x=>by
    constructor
    ·rintro(⟨m,h,h2⟩|rfl)
     ·exact⟨m,by omega,h2⟩
     ·exact⟨k,by omega,hO,_,h1,rfl⟩
    ·rintro⟨m,h,h2,e,h3,h4⟩
     by_cases hm:m=k
     ·subst hm;rw[h1] at h3;cases h3;exact .inr h4.symm
     ·exact .inl ⟨m,by omega,h2,e,h3,h4⟩
   have hyk:=hy _ _ i1 L1 ((b6,.cells (W4 d (.slice ta d.attrs.length tc)).toArray 56 (0,0))::(bm,.map (P0 (F0u .i64) (Z4 d.index (.agg #[]) c' es')) (C2k d.index c' es'))::R) hat hi1 hJk;repeat' (first|refine zp rfl ?_|refine zn ?_|refine A2 rfl ?_|refine A0 rfl ?_|refine zs [4,7] rfl ?_|refine D4 (B0 A1 rfl (Has.imm g3) rfl) rfl ?_|refine zo 0 rfl rfl rfl rfl ?_|refine C9 _ (D5b b c es d.index _ _ hm (Has.imm gb)) rfl (by kernel_rfl) rfl ?_ ?_<;>rintro _ _-⟨hq,rfl,rfl⟩|refine C9 _ (D5b bm c' es' d.parent _ _ hes (Has.own 1 rfl)) rfl (by kernel_rfl) rfl ?_ ?_<;>rintro _ _-⟨hq2,rfl,rfl⟩|refine zd rfl rfl (by omega) rfl ?_)
   rotate_right
   ·exact absurd (hout.1 hO) (fun h=>h.elim (fun h=>Bool.noConfusion (hq.2 h)) (fun h=>Bool.noConfusion (hq2.2 h)))
   all_goals
    repeat' (first|refine zp rfl ?_|refine zn ?_|refine A0 rfl ?_|refine A3 ?_|refine zo 0 rfl rfl rfl rfl ?_|refine K5 rfl (A7k (kv:=F0u .i64) (a:=d.index) (k:=1) A1 rfl rfl rfl ⟨_,rfl,rfl⟩ keyI rfl rfl ?_)|(refine J3 (E9x [_,_] L1 R) ?_;refine E7c hyk rfl rfl rfl ?_;rintro bb i5 L5 hi5 ⟨rfl,L6,rfl,hJ6⟩;refine J3 (E9x [_,_] L6 R).symm ?_;refine Y9 [_] (_::(L6++R)) ?_)|refine zd rfl rfl (by omega) rfl ?_)
    exact⟨ds.length-(k+1),by omega,k+1,_,_,L6,rfl,hlt,rfl,hs2,by rw[B6w hO,E9h];exact hJ6,rfl⟩
  ·repeat' (first|refine zn ?_|refine A2 rfl ?_|refine A0 rfl ?_|(refine zr 4 ?_;refine D4 (B0 A1 rfl (Has.imm g3) rfl) rfl ?_;(all_goals refine zp rfl ?_);(all_goals(refine zo 0 rfl rfl rfl rfl ?_));(all_goals(refine C9 _ (D5b b c es d.index _ _ hm (Has.imm gb)) rfl (by kernel_rfl) rfl ?_ ?_<;>rintro _ _-⟨hq,rfl,rfl⟩));(all_goals refine zp rfl ?_);(all_goals refine zp rfl ?_);(all_goals(first|refine zp rfl ?_|refine zp rfl ?_));(all_goals(first|refine zp rfl ?_|refine zp rfl ?_));(all_goals(first|refine zo 0 rfl rfl rfl rfl ?_|refine zp rfl ?_));(all_goals first|refine zp rfl ?_|(refine C9 _ (D5b bm c' es' d.parent _ _ hes (Has.own 1 rfl)) rfl (by kernel_rfl) rfl ?_ ?_<;>rintro _ _-⟨hq2,rfl,rfl⟩));(all_goals(first|refine zp rfl ?_|refine zp rfl ?_));(all_goals(refine zp rfl ?_;try refine Y9 [_] ((bm,.map (P0 (F0u .i64) es') c')::(L1++R)) ?_));(all_goals refine zn ?_))|(refine zr 7 ?_;refine zd rfl rfl (by omega) rfl ?_;refine zp rfl ?_;refine zn ?_))
   ·exact absurd (hout.2 (.inl (hq.1 rfl))) hO
   ·exact absurd (hout.2 (.inr (hq2.1 rfl))) hO
   ·exact⟨ds.length-(k+1),by omega,k+1,es',c',L1,rfl,hlt,rfl,hes.congr fun x=>by
     constructor
     ·rintro⟨m,h,h2⟩;exact⟨m,by omega,h2⟩
     ·rintro⟨m,h,h2,h3⟩
      exact⟨m,by
       rcases F0m.1 h with h|rfl
       ·exact h
       ·exact absurd h2 hO,h2,h3⟩,by rw[D6c hO];exact hJk,rfl⟩
 ·obtain rfl:k=ds.length:=by omega
  repeat' (first|refine zn ?_|fail)
  refine B8k [_] (L1++R) ?_;repeat' (first|refine zn ?_|refine A0 rfl ?_|refine D0d ?_|refine zr 2 ?_|refine zf rfl rfl (by omega) rfl ?_)
  exact⟨L1,rfl,hJk⟩
def SetV(i:Imm)(l:List Int)(v:Value):Prop:=∃b es c,v=.map (some b)∧i.blk b=some (.map (P0 (F0u .i64) es) c)∧SetM es (· ∈l)
def BelV(i:Imm)(ao:Option Addr)(n cap:Nat)(l:List Int)(v:Value):Prop:=∃b es c b2 b3,v=.func (.func 127) #[] #[.pointer (some ⟨b2,0,none⟩),.pointer (some ⟨b3,0,none⟩)]∧i.blk b=some (.map (P0 (F0u .i64) es) c)∧SetM es (· ∈l)∧i.blk b2=some (.cells [.slice ao n cap].toArray 46 (0,0))∧i.blk b3=some (.cells [.map (some b)].toArray 132 (0,0))
theorem D4t(v w:Value)(ds:List Dev)(l:List Int)(i:Imm)(L:SH)(hv:V4 i v ds)(hw:A0u i w l):
 E6 E9c 43 [.agg #[v],w] i L fun r i' L'=>A0u i' r (K8 ds (Clo.out (dvs ds) (· ∈l)) ds.length)∧L'=L:=by
 obtain⟨cs,hs,hc,hn⟩:=hv;obtain⟨ao,cap,rfl,_⟩:=id hs;obtain⟨aw,capw,rfl,_⟩:=id hw.1;refine E6.state (K:=fun r i' L'=>∃x y O,J2 3 r 1 (K8 ds (Clo.out (dvs ds) (· ∈l)) ds.length).length (I3 (K8 ds (Clo.out (dvs ds) (· ∈l)) ds.length)) O∧L'=x::(O++(y::L))) ?_ ?_;rotate_left
 ·rintro r i' L' w _ hst ⟨x,y,O,hO,rfl⟩;obtain⟨i2,h1,h2,h3⟩:=hO.freeze hst.drop;exact⟨i2,_,h1,h2.drop,⟨h3,by have:=A0w (ds:=ds) (φ:=Clo.out (dvs ds) (· ∈l)) (n:=ds.length);omega⟩,rfl⟩
 refine D4h Tryz.func43 rfl rfl (by simp) rfl ?_;refine C4m ?_;refine zr 0 ?_;refine E4 rfl rfl (fun bt=>?_);all_goals refine zp rfl ?_
 all_goals refine zn ?_
 refine zn ?_;refine C4m ?_;refine zr 1 ?_;refine C1 A1 rfl rfl (fun b5=>?_);all_goals refine zn ?_
 refine zn ?_;refine E4t ?_;refine C4m ?_;refine F9 J9 [0,1,2,3] [] [] (fun L9=>L9=(b5,.cells [.slice none 0 0].toArray 22 (0,0))::(bt,.cells [.slice ao ds.length cap].toArray 46 (0,0))::L) (fun _=>True) (by kernel_rfl) (by decide) rfl rfl trivial ?_;refine D7 (fun i' hi L' hL=>by subst hL;exact B0 A1 rfl (Has.own 1 rfl) rfl) rfl rfl rfl rfl rfl rfl ?_;refine zg rfl rfl rfl ?_;refine C4 (fun i v=>SetV i l v) (fun _ _ hi _ ⟨b,es,c,h1,h2,h3⟩=>⟨b,es,c,h1,hi.blk _ _ h2,h3⟩) rfl rfl rfl rfl (fun i2 hi2 L9 _=>⟨rfl,D2 (by kernel_rfl) rfl (setOf_t _ l _ _ (hw.le hi2)) (fun _ _ _ _ ⟨h,h'⟩=>⟨h',h⟩)⟩) ?_
 refine C4 (fun i v=>BelV i ao ds.length cap l v) (fun _ _ hi _ ⟨b,es,c,b2,b3,h1,h2,h3,h4,h5⟩=>⟨b,es,c,b2,b3,h1,hi.blk _ _ h2,h3,hi.blk _ _ h4,hi.blk _ _ h5⟩) rfl rfl rfl rfl (fun i2 hi2 L9 _=>by
  rintro v ⟨b,es,c,rfl,h1,h2⟩;exact⟨rfl,D2 (by kernel_rfl) rfl (below_t ao ds.length cap b _ _) (fun _ _ _ hi ⟨⟨b2,b3,h3,h4,h5⟩,h'⟩=>⟨h',b,es,c,b2,b3,h3,hi.blk _ _ h1,h2,h4,h5⟩)⟩) ?_
 refine G1 rfl rfl (fun i2 L2 hi2 hI _=>?_);subst hI;rintro w ⟨b,es,c,b2,b3,rfl,g1,hm,g2,g3⟩ w2-;refine zn ?_;refine zn ?_;refine E8q ?_;refine C5j (I:=fun k i' L'=>∃(a2:Option Addr)(c2:Nat)(O:SH),J2 3 (.slice a2 k c2) 1 k (((A3u cs (Clo.out (dvs ds) (· ∈l)) ds.length).take k).map idxOf) O∧L'=(b5,.cells [.slice a2 k c2].toArray 22 (0,0))::(O++((bt,.cells [.slice ao ds.length cap].toArray 46 (0,0))::L))) rfl (by kernel_rfl) (Iter127 ao cap ds cs (· ∈l) es c b b2 b3 i2 (hs.le hi2) (hc.le hi2) hn hm g1 g2 g3) (fun d hd=>?_) ⟨none,0,[],J2.nil 3 1,rfl⟩ ?_ ?_
 ·obtain⟨_,_,_,rfl⟩:=C3m hd;rfl
 ·rintro k d i3 L3 R hd hi3 ⟨a2,c2,O,hO,rfl⟩;obtain⟨q,hq,_,rfl⟩:=C3m (E9g hd);obtain⟨dd,hdd⟩:=zi ds q hq;obtain⟨ta,tc,e0,_,_⟩:=hc.2 q dd hdd;rw[e0] at hd⊢;refine zr 3 ?_;refine C1 A1 rfl rfl (fun b6=>?_)
  (all_goals(refine zw 0 rfl rfl rfl rfl ?_))
  all_goals refine zn ?_
  refine zn ?_;refine⟨(b6,.cells (W4 dd (.slice ta dd.attrs.length tc)).toArray 56 (0,0))::(b5,.cells [.slice a2 k c2].toArray 22 (0,0))::(O++((bt,.cells [.slice ao ds.length cap].toArray 46 (0,0))::L)),rfl,fun R'=>?_⟩;refine zn ?_;refine zr 4 ?_;refine zo 1 rfl rfl rfl rfl ?_;refine zp rfl ?_;refine zo 0 rfl rfl rfl rfl ?_;refine A8 A1 1 rfl rfl rfl (fun b8 i4 hi4 hbs=>?_);refine J3 (L':=[(b6,.cells (W4 dd (.slice ta dd.attrs.length tc)).toArray 56 (0,0)),(b5,.cells [.slice a2 k c2].toArray 22 (0,0))]++(O++(((bt,.cells [.slice ao ds.length cap].toArray 46 (0,0))::L)++R'))) (List.Perm.of_eq (by simp)) ?_;have hk:k<(A3u cs (Clo.out (dvs ds) (· ∈l)) ds.length).length:=(E9e.1 hd).1
  have hk2:(A3u cs (Clo.out (dvs ds) (· ∈l)) ds.length).length≤ds.length:=by
   have h1:=congrArg List.length (B0m (φ:=Clo.out (dvs ds) (· ∈l)) hc (E9q _));have h2:=A0w (ds:=ds) (φ:=Clo.out (dvs ds) (· ∈l)) (n:=ds.length);rw[F1t,C1d] at h1;omega
  refine H7 (D8 [_,_] A1 (sz:=1) (bytes:=8) (m:=1) rfl rfl hO (hbs.rd _) ⟨_,rfl,rfl⟩ ⟨_,rfl,rfl,rfl⟩ (by omega) (F4 rfl) (by omega) (by omega)) rfl ?_;rintro _ i5 _ hi5 ⟨O',⟨ao',cap',rfl,hO'⟩,rfl⟩;refine zw 1 rfl rfl rfl rfl ?_;refine Y9 [_] ((b5,_)::(O'++(((bt,.cells [.slice ao ds.length cap].toArray 46 (0,0))::L)++R'))) ?_;iterate 3 refine zn ?_
  refine⟨(b5,.cells [.slice ao' (k+1) cap'].toArray 22 (0,0))::(O'++((bt,.cells [.slice ao ds.length cap].toArray 46 (0,0))::L)),by simp,ao',cap',O',?_,rfl⟩;rw[List.take_add_one,hd,List.map_append];exact hO'
 ·rintro r i3 L3 hi3 ⟨a2,c2,O,hO,rfl⟩;refine zn ?_;refine zn ?_;refine CX.of ?_;repeat' (first|refine zp rfl ?_|refine zn ?_|refine A3 ?_|refine zo 0 rfl rfl rfl rfl ?_)
  rw[List.take_length,B0m hc (E9q _)] at hO;refine⟨[r],_,rfl,rfl,(b5,_),(bt,_),O,?_,rfl⟩;have h1:=congrArg List.length (B0m (φ:=Clo.out (dvs ds) (· ∈l)) hc (E9q _));rw[F1t,C1d] at h1;rw[←h1];exact hO
noncomputable def C2n(ds:List Dev)(qs:List Rul):List Int:=K8 ds (A1f ds (K8 ds (A8h ds qs) ds.length)) ds.length
theorem S3.commF{rs us:List Rul}{a:Nat}(h:S3 (eF rs us) (min rs.length us.length) a):S3 (eF us rs) (min us.length rs.length) a:=by
 rw[Nat.min_comm];exact h.congr fun j _=>⟨Eq.symm,Eq.symm⟩
theorem S3.commB{rs us:List Rul}{a b:Nat}(h:S3 (eB rs us) (min rs.length us.length-a) b):S3 (eB us rs) (min us.length rs.length-a) b:=by
 rw[Nat.min_comm];exact h.congr fun j _=>⟨Eq.symm,Eq.symm⟩
theorem E5x{ds:List Dev}{qs:List Rul}{k:Nat}:A8h ds qs k↔∃d,ds[k]?=some d∧∃r∈qs,A3w r.terms∨A6t r.terms d:=by
 unfold A8h;constructor
 ·rintro⟨d,hd,j,r,hr,h⟩;exact⟨d,hd,r,E9g hr,h⟩
 ·rintro⟨d,hd,r,hr,h⟩
  obtain⟨j,hj⟩:=F0j.1 hr;exact⟨d,hd,j,r,hj,h⟩
theorem C7c{ds:List Dev}{qs ps:List Rul}(h:∀r,r∈qs↔r∈ps):C2n ds qs=C2n ds ps:=by
 have e:K8 ds (A8h ds qs) ds.length=K8 ds (A8h ds ps) ds.length:=A2h fun k _=>by
  rw[E5x,E5x];exact⟨fun⟨d,hd,r,hr,h'⟩=>⟨d,hd,r,(h r).1 hr,h'⟩,fun⟨d,hd,r,hr,h'⟩=>⟨d,hd,r,(h r).2 hr,h'⟩⟩
 unfold C2n;rw[e]
theorem C6q(ds:List Dev)(rs us:List Rul)(a b:Nat):C2n ds (V1 rs us a b)=C2n ds (V1 us rs a b):=
 C7c fun r=>by simp only[V1,E9r];exact Or.comm
theorem E6v{ds:List Dev}{qs:List Rul}(h:∃r∈qs,A3w r.terms):C2n ds qs=K8 ds (fun _=>True) ds.length:=by
 obtain⟨r,hr,hj⟩:=h;refine A2h fun k hk=>⟨fun _=>trivial,fun _=>?_⟩
 obtain⟨d,hd⟩:=zi ds k hk;exact⟨d,hd,.inl (C8h.2 ⟨k,d,hk,hd,E5x.2 ⟨d,hd,r,hr,.inl hj⟩,rfl⟩)⟩
def B5v(ds:List Dev)(qs:List Rul)(k:Nat):Prop:=∃d,ds[k]?=some d∧∃(j:Nat)(r:Rul),qs[j]?=some r∧A6t r.terms d
theorem E6u{ds:List Dev}{qs:List Rul}(hT:Clo.Ok (dvs ds))(h:¬ ∃r∈qs,A3w r.terms):C2n ds qs=K8 ds (Clo.out (dvs ds) (· ∈K8 ds (B5v ds qs) ds.length)) ds.length:=by
 have e:K8 ds (A8h ds qs) ds.length=K8 ds (B5v ds qs) ds.length:=A2h fun k _=>by
  unfold A8h B5v;constructor
  ·rintro⟨d,hd,j,r,hr,h1|h1⟩
   ·exact absurd ⟨r,E9g hr,h1⟩ h
   ·exact⟨d,hd,j,r,hr,h1⟩
  ·rintro⟨d,hd,j,r,hr,h1⟩;exact⟨d,hd,j,r,hr,.inr h1⟩
 unfold C2n;rw[e];exact A2h fun k hk=>(D9v hT _ hk).symm
theorem B5c{ds:List Dev}{qs:List Rul}(hT:Clo.Ok (dvs ds)){x:Int}:x∈C2n ds qs↔∃k d,k<ds.length∧ds[k]?=some d∧Clo.out (dvs ds) (· ∈K8 ds (A8h ds qs) ds.length) k∧d.index=x:=by
 unfold C2n;rw[C8h];constructor
 ·rintro⟨k,d,h1,h2,h3,h4⟩;exact⟨k,d,h1,h2,(D9v hT _ h1).2 h3,h4⟩
 ·rintro⟨k,d,h1,h2,h3,h4⟩;exact⟨k,d,h1,h2,(D9v hT _ h1).1 h3,h4⟩
theorem C6p{ds:List Dev}{qs:List Rul}(hT:Clo.Ok (dvs ds)){k:Nat}{d:Dev}(hd:ds[k]?=some d)(h:d.parent∈C2n ds qs):d.index∈C2n ds qs:=by
 obtain⟨m,e,h1,h2,h3,h4⟩:=(B5c hT).1 h;have hk:=(E9e.1 hd).1;have d1:(dvs ds)[k]?=some ⟨d.index,d.parent⟩:=by rw[A3m,hd];rfl
 have d2:(dvs ds)[m]?=some ⟨e.index,e.parent⟩:=by rw[A3m,h2];rfl
 refine(B5c hT).2 ⟨k,d,hk,hd,Clo.out_iff.2 ⟨_,d1,.inr ⟨m,?_,h3,_,d2,h4⟩⟩,rfl⟩
 exact hT.above d1 d2 h4
theorem affL_up{ds:List Dev}{qs:List Rul}(hT:Clo.Ok (dvs ds)){k:Nat}{d:Dev}(hd:ds[k]?=some d)(h:d.index∈C2n ds qs)(ha:¬d.parent∈C2n ds qs)(hj:¬ ∃r∈qs,A3w r.terms):∃(j:Nat)(r:Rul),qs[j]?=some r∧A6t r.terms d:=by
 obtain⟨m,e,h1,h2,h3,h4⟩:=(B5c hT).1 h;have d1:(dvs ds)[k]?=some ⟨d.index,d.parent⟩:=by rw[A3m,hd];rfl
 have d2:(dvs ds)[m]?=some ⟨e.index,e.parent⟩:=by rw[A3m,h2];rfl
 have hm:m=k:=hT.one d2 d1 h4;subst hm;rw[hd] at h2;cases h2;obtain⟨x,hx,h5|⟨q,hq,h6,y,hy,h7⟩⟩:=Clo.out_iff.1 h3
 ·rw[d1] at hx;cases hx;obtain⟨m2,e2,g1,g2,g3,g4⟩:=C8h.1 h5;have d3:(dvs ds)[m2]?=some ⟨e2.index,e2.parent⟩:=by rw[A3m,g2];rfl
  have hm:m2=m:=hT.one d3 d1 g4;subst hm;obtain⟨d',hd',j,r,hr,h8|h8⟩:=g3
  ·exact absurd ⟨r,E9g hr,h8⟩ hj
  ·rw[hd] at hd';cases hd';exact⟨j,r,hr,h8⟩
 ·rw[d1] at hx;cases hx;obtain⟨z,hz,rfl⟩:=B7v hy;exact absurd ((B5c hT).2 ⟨q,z,(E9e.1 hz).1,hz,h6,h7⟩) ha
theorem jump_at{qs:List Rul}:(∃r∈qs,A3w r.terms)↔∃(j:Nat)(r:Rul),qs[j]?=some r∧A3w r.terms:=by
 constructor
 ·rintro⟨r,hr,h⟩
  obtain⟨j,hj⟩:=F0j.1 hr;exact⟨j,r,hj,h⟩
 ·rintro⟨j,r,hr,h⟩;exact⟨r,E9g hr,h⟩
theorem B1g(va vb vt:Value)(rs us:List Rul)(ds:List Dev)(i:Imm)(L:SH)(ha:Q0 i va rs)(hb:Q0 i vb us)(ht:V4 i vt ds)(hT:Clo.Ok (dvs ds)):
 E6 E9c 15 [va,vb,.agg #[vt]] i L fun r i' L'=>(∃a b,S3 (eF rs us) (min rs.length us.length) a∧S3 (eB rs us) (min rs.length us.length-a) b∧A0u i' r (C2n ds (V1 rs us a b)))∧L'=L:=by
 obtain⟨_,⟨aa,ac,rfl,_⟩,_,hr5,_⟩:=id ha;obtain⟨_,⟨ba,bc,rfl,_⟩,_,hu5,_⟩:=id hb;obtain⟨_,⟨ao,cap,rfl,_⟩,_,hn⟩:=id ht;refine A5 Tryz.func15 rfl rfl (by simp) rfl ?_;repeat' (first|refine zp rfl ?_|refine zn ?_|refine zs [0,1] rfl ?_|(refine E4 rfl rfl (fun b5=>?_);refine M3 (fun i hi g5=>?_);replace ha:=ha.le hi;replace hb:=hb.le hi;replace ht:=ht.le hi)|(refine A7 (D1k _ _ rs us _ _ ha hb) rfl (by kernel_rfl) rfl ?_;rintro w i L hi ⟨⟨a,b,hpa,hpb,es,hes,her⟩,hLL⟩;subst hLL;obtain⟨aw,cw,rfl,_⟩:=id hes;replace ht:=ht.le hi;replace g5:=hi.blk _ _ g5;have hq:=C1p ha hb a b))
 obtain⟨qs,hqs0⟩:∃qs,qs=V1 rs us a b:=⟨_,rfl⟩;rw[←hqs0] at hes her hq;rw[←hqs0];refine zr 2 ?_;refine zp rfl ?_;refine A7 (B3g _ qs.length es 38 [] (fun k=>∃q,qs[k]?=some q∧A3w q.terms) _ _ hes hq (by kernel_rfl) (fun k i' L' hk hle=>?_)) rfl (by kernel_rfl) rfl ?_
 ·obtain⟨q,hq1⟩:=zi qs k hk;obtain⟨ta,tc,e1,h5,h6,_⟩:=her.2 k q hq1;rw[e1]
  refine(D0h q.file q.line _ q.terms i' L' (h5.le hle) h6).mono fun _ _ _ _ ⟨h1,h2⟩=>⟨h1.iff ?_,h2⟩
  constructor
  ·exact fun h=>⟨q,hq1,h⟩
  ·rintro⟨u,hu,h⟩;rw[hq1] at hu;cases hu;exact h
 rintro _ i2 L2 hi2 ⟨⟨bb,rfl,hbb⟩,hLL⟩;subst hLL;replace ht:=ht.le hi2;replace hes:=hes.le hi2;replace her:=her.le hi2;replace g5:=hi2.blk _ _ g5;refine zp rfl ?_;refine zn ?_;cases bb
 ·have hno:¬ ∃r∈qs,A3w r.terms:=by
   rintro⟨r,hr,h⟩
   obtain⟨j,hj⟩:=F0j.1 hr;exact Bool.noConfusion (hbb.2 ⟨j,(E9e.1 hj).1,r,hj,h⟩)
  repeat' (first|refine zp rfl ?_|refine zn ?_|refine A0 rfl ?_|refine zs [3,4] rfl ?_)
  refine zr 11 ?_;refine zp rfl ?_;refine A7 (New_t _ qs es _ _ hes her hq) rfl (by kernel_rfl) rfl ?_;rintro pv i3 L hi3 ⟨hpv,hLL⟩;subst hLL;have hpv0:=hpv;obtain⟨bp,_,_,_,_,_,_,_,_,_,_,_,rfl,_⟩:=hpv;refine A6 T9 rfl ?_;refine zp rfl ?_;refine zn ?_;replace ht:=ht.le hi3;replace g5:=hi3.blk _ _ g5
  have hqs:∀(j:Nat)(r:Rul),qs[j]?=some r→Q6 1024 r.terms∧r.terms.length≤1024:=fun j r hj=>by
   obtain⟨_,_,_,_,h1,h2,_⟩:=her.2 j r hj;exact⟨h2,h1⟩
  repeat' (first|refine zp rfl ?_|refine zn ?_|refine zr 12 ?_|refine D4 (B0 A1 rfl (Has.imm g5) rfl) rfl ?_)
  refine B1 [5,9,12,39,40,41] (fun m vs i' L'=>∃(k:Nat)(a2:Option Addr)(c2:Nat)(O:SH),m=ds.length-k∧k≤ds.length∧vs=[.pointer (some ⟨b5,0,none⟩),.slice a2 (K8 ds (B5v ds qs) k).length c2,.func (.func 42) #[.pointer (some ⟨bp,0,none⟩)] #[],.slice ao ds.length cap,.int .i64 (ds.length:Int),.int .i64 (k:Int)]∧J2 3 (.slice a2 (K8 ds (B5v ds qs) k).length c2) 1 (K8 ds (B5v ds qs) k).length (I3 (K8 ds (B5v ds qs) k)) O∧i3.le i'∧L'=O++L) ds.length ⟨0,none,0,[],rfl,E9k _,rfl,J2.nil 3 1,Imm.le.refl _,rfl⟩ ?_;rintro m g vs i1 _ hi1 ⟨k,a2,c2,O,rfl,hk,rfl,hO,hle,rfl⟩;have hsl:=A0w (ds:=ds) (φ:=B5v ds qs) (n:=k);by_cases hlt:k<ds.length
  ·obtain⟨d,hd⟩:=zi ds k hlt;obtain⟨b1,o1,c1,t1,z1,p1,ta,tc,e1,g1,q1,hda,hdk⟩:=(ht.le hle).at hd;cases e1;repeat' (first|refine zn ?_|refine A2 rfl ?_|refine zr 13 ?_|refine zt rfl rfl (by omega) rfl ?_)
   refine zr 14 ?_;refine zx rfl rfl rfl (by omega) rfl ?_;refine D4 (D9 (l:=W4 d (.slice ta d.attrs.length tc)) A1 rfl (Has.imm g1) rfl rfl rfl q1) rfl ?_;refine C1 A1 rfl rfl (fun b11=>?_);refine zw 0 rfl rfl rfl rfl ?_;refine zn ?_;refine zn ?_;refine A2b (fun i4 hi4 g11=>?_);have l4:=hle.trans hi4;repeat' (first|refine zn ?_|fail)
   refine zr 15 ?_;refine zp rfl ?_;refine D4 (B0 A1 rfl (Has.imm g11) rfl) rfl ?_;refine T6 (B9n _ qs d (W4 d (.slice ta d.attrs.length tc)) _ _ (hpv0.le l4) hqs ⟨ta,tc,rfl,hda.le hi4,hdk⟩) rfl rfl (by kernel_rfl) rfl ?_;rintro _ i6 L6 hi6 ⟨⟨a6,m6,c6,rfl,hmz⟩,hLL⟩;subst hLL;have l6:=l4.trans hi6;replace g11:=hi6.blk _ _ g11;by_cases hm:m6=0
   ·subst hm
    have hno2:¬B5v ds qs k:=by
     rintro⟨d',hd',j,r,hr,hc⟩
     rw[hd] at hd';cases hd';exact hmz.1 rfl j r hr hc
    have e0:=B0b (ds:=ds) hno2;refine zp rfl ?_;refine A6 (I0 rfl rfl (by omega)) rfl ?_;all_goals refine zn ?_
    repeat' (first|refine zn ?_|refine A0 rfl ?_|(refine zr 17 ?_;refine zd rfl rfl (by omega) rfl ?_;refine zp rfl ?_;refine zn ?_))
    exact⟨ds.length-(k+1),by omega,k+1,a2,c2,O,rfl,hlt,by rw[e0];rfl,by rw[e0];exact hO,l6,rfl⟩
   ·have hyes2:B5v ds qs k:=by
     refine Classical.byContradiction fun h=>hm (hmz.2 fun j r hr hc=>h ⟨d,hd,j,r,hr,hc⟩)
    have e0:=A7a hd hyes2;refine zp rfl ?_;refine A6 (J4 rfl rfl (by omega)) rfl ?_;all_goals refine zn ?_
    repeat' (first|refine zp rfl ?_|refine zn ?_|refine A2 rfl ?_|refine zs [16,17] rfl ?_|refine zm g11 rfl rfl rfl rfl ?_|refine A8 A1 1 rfl rfl rfl (fun bz i hi hbs=>?_)|(refine P2 A1 (sz:=1) (bytes:=8) rfl rfl rfl hO (hbs.rd _) ⟨_,rfl,rfl⟩ ⟨_,rfl,rfl,rfl⟩ (by omega) (F4 rfl) (by omega) (by omega) ?_;intro a3 c3 O' hO')|refine zd rfl rfl (by omega) rfl ?_)
    exact⟨ds.length-(k+1),by omega,k+1,a3,c3,O',rfl,hlt,by rw[e0,E9h];rfl,by rw[e0,E9h,T8];exact hO',l6.trans hi,rfl⟩
  ·obtain rfl:k=ds.length:=by omega
   repeat' (first|refine zn ?_|refine A0 rfl ?_|refine zr 13 ?_|refine zf rfl rfl (by omega) rfl ?_)
   refine F6 hO (L0:=L) (List.Perm.refl _) (fun i4 hi4 hs4=>?_);refine zr 18 ?_;refine D4 (B0 A1 rfl (Has.imm ((hle.trans hi4).blk _ _ g5)) rfl) rfl ?_;refine zp rfl ?_;refine A7 (D4t _ _ ds (K8 ds (B5v ds qs) ds.length) _ _ (ht.le (hle.trans hi4)) ⟨hs4,by omega⟩) rfl (by kernel_rfl) rfl ?_;rintro w i5 L hi5 ⟨hw,hLL⟩;subst hLL;obtain⟨ax,cx,rfl,_⟩:=id hw.1;refine zp rfl ?_;refine zn ?_;repeat' (first|refine zn ?_|fail)
   refine⟨⟨a,b,hpa,hpb,?_⟩,rfl⟩;rw[←hqs0,E6u hT hno];exact hw
 ·have hyes:∃r∈qs,A3w r.terms:=by
   obtain⟨j,_,r,hj,h⟩:=hbb.1 rfl;exact⟨r,E9g hj,h⟩
  repeat' (first|refine zp rfl ?_|refine zn ?_|refine A2 rfl ?_|refine zs [3,4,5] rfl ?_|refine D4 (B0 A1 rfl (Has.imm g5) rfl) rfl ?_)
  refine B1 [9,22,23,24] (fun m vs i' L'=>∃(k:Nat)(a2:Option Addr)(c2:Nat)(O:SH),m=ds.length-k∧k≤ds.length∧vs=[.slice a2 (K8 ds (fun _=>True) k).length c2,.slice ao ds.length cap,.int .i64 (ds.length:Int),.int .i64 (k:Int)]∧J2 3 (.slice a2 (K8 ds (fun _=>True) k).length c2) 1 (K8 ds (fun _=>True) k).length (I3 (K8 ds (fun _=>True) k)) O∧i2.le i'∧L'=O++L2) ds.length ⟨0,none,0,[],rfl,E9k _,rfl,J2.nil 3 1,Imm.le.refl _,rfl⟩ ?_;rintro m g vs i1 _ hi1 ⟨k,a2,c2,O,rfl,hk,rfl,hO,hle,rfl⟩;have hsl:=A0w (ds:=ds) (φ:=fun _=>True) (n:=k);by_cases hlt:k<ds.length
  ·obtain⟨d,hd⟩:=zi ds k hlt;obtain⟨b1,o1,c1,t1,z1,p1,ta,tc,e1,g1,q1,hda,hdk⟩:=(ht.le hle).at hd;cases e1;have e0:=A7a (φ:=fun _=>True) hd trivial;repeat' (first|refine zn ?_|refine A2 rfl ?_|refine zr 6 ?_|refine zt rfl rfl (by omega) rfl ?_)
   refine zr 7 ?_;refine zx rfl rfl rfl (by omega) rfl ?_;refine D4 (D9 (l:=W4 d (.slice ta d.attrs.length tc)) A1 rfl (Has.imm g1) rfl rfl rfl q1) rfl ?_;refine C1 A1 rfl rfl (fun b11=>?_);refine zw 0 rfl rfl rfl rfl ?_;refine zn ?_;refine zn ?_;refine A2b (fun i4 hi4 g11=>?_);repeat' (first|refine zp rfl ?_|refine zn ?_|refine zs [8,9] rfl ?_|refine zm g11 rfl rfl rfl rfl ?_|refine A8 A1 1 rfl rfl rfl (fun bz i hi hbs=>?_)|(refine P2 A1 (sz:=1) (bytes:=8) rfl rfl rfl hO (hbs.rd _) ⟨_,rfl,rfl⟩ ⟨_,rfl,rfl,rfl⟩ (by omega) (F4 rfl) (by omega) (by omega) ?_;intro a3 c3 O' hO')|refine zd rfl rfl (by omega) rfl ?_)
   exact⟨ds.length-(k+1),by omega,k+1,a3,c3,O',rfl,hlt,by rw[e0,E9h];rfl,by rw[e0,E9h,T8];exact hO',hle.trans (hi4.trans hi),rfl⟩
  ·obtain rfl:k=ds.length:=by omega
   repeat' (first|refine zn ?_|refine A0 rfl ?_|refine zr 6 ?_|refine zf rfl rfl (by omega) rfl ?_)
   refine F6 hO (L0:=L2) (List.Perm.refl _) (fun i4 hi4 hs4=>?_);repeat' (first|refine zp rfl ?_|refine zn ?_|refine A3 ?_)
   refine⟨⟨a,b,hpa,hpb,?_⟩,rfl⟩;rw[←hqs0,E6v hyes];exact⟨hs4,by omega⟩
theorem S7.atc{i:Imm}{v:Value}{l:List (ByteArray×ByteArray)}{k:Nat}{p:ByteArray×ByteArray}(h:S7 i v l)(hp:l[k]?=some p):∃b o c t z cap,v=.slice (some ⟨b,o,none⟩) l.length cap∧i.blk b=some (.cells (E9d c) t z)∧∀j u,(A6u p)[j]?=some u→c[o+((k:Nat):Int).toNat*2+j]?=some u:=by
 obtain⟨b1,o1,c1,t1,z1,p1,e1,g1,h1⟩:=h.1.at (E9e.1 hp).1 (by omega);refine⟨b1,o1,c1,t1,z1,p1,e1,g1,fun j u hj=>?_⟩;have hj2:j<2:=(E9e.1 hj).1;rw[h1 j hj2,C9p hp j hj2,hj]
def C4g(l:List (ByteArray×ByteArray)):Prop:=∀p∈l,B1v p
theorem C4g.snoc{l:List (ByteArray×ByteArray)}{q:ByteArray×ByteArray}(h:C4g l)(hq:B1v q):C4g (l++[q]):=fun p hp=>(E9r.1 hp).elim (h p) fun h'=>by simp at h';subst h';exact hq
theorem Set_t(v:Value)(l:List (ByteArray×ByteArray))(nm vl:ByteArray)(i:Imm)(L:SH)(hv:S7 i v l)(hn:nm.size≤64)(hvl:vl.size≤64)(hl:l.length≤15):
 E6 E9c 68 [v,.string nm,.string vl] i L fun r i' L'=>(∃l',S7 i' r l'∧l'.length≤l.length+1)∧L'=L:=by
 have key:E6 E9c 68 [v,.string nm,.string vl] i L fun r i' L'=>∃(u:Unit)(n:Nat)(xs:List Value)(O:SH),(∃l':List (ByteArray×ByteArray),n=l'.length∧xs=attrs l'∧l'.length≤l.length+1∧∀p∈l',B1v p)∧J2 137 r 2 n xs O∧L'=O++L:=by
  obtain⟨ao,cap,rfl,_⟩:=id hv.1;have hok:=hv.2.2;refine A5 Tryz.func68 rfl rfl (by simp) rfl ?_;repeat' (first|refine zp rfl ?_|refine zn ?_|refine zs [0,1,2,3] rfl ?_|refine I9 rfl rfl rfl (fun h=>?_) (fun h=>?_))
  all_goals
   refine B1 [0,1,2,7,8,9] (fun m vs i' L'=>∃(k:Nat)(a:List (ByteArray×ByteArray))(a2:Option Addr)(c2:Nat)(d:Bool)(O:SH),m=l.length-k∧k≤l.length∧a.length≤k+(if d then 1 else 0)∧C4g a∧vs=[.slice ao l.length cap,.string nm,.string vl,.slice a2 a.length c2,.bool d,.int .i64 (k:Int)]∧J2 137 (.slice a2 a.length c2) 2 a.length (attrs a) O∧S7 i' (.slice ao l.length cap) l∧L'=O++L) l.length ⟨0,[],none,0,_,[],rfl,E9k _,by simp,(fun p hp=>by cases hp),rfl,J2.nil 137 2,hv,rfl⟩ ?_;clear hv;rintro m g vs i _ hi ⟨k,a,a2,c2,d,O,rfl,hk,hak,haok,rfl,hO,hv,rfl⟩;by_cases hlt:k<l.length
   ·obtain⟨p,hp⟩:=zi l k hlt;have hpok:=hok p (E9g hp);obtain⟨b1,o1,c1,t1,z1,p1,e1,g1,q1⟩:=hv.atc hp;cases e1;cases d
    all_goals
     simp only[if_true,if_false,Bool.false_eq_true,Nat.add_zero] at hak;repeat' (first|refine zp rfl ?_|refine zn ?_|refine A2 rfl ?_|refine A0 rfl ?_|refine zs [4,5,6,7,8,9,10] rfl ?_|refine zt rfl rfl (by omega) rfl ?_|refine zd rfl rfl (by omega) rfl ?_|refine zx rfl rfl rfl (by omega) rfl ?_|refine zm g1 (q1 0 _ rfl) rfl rfl rfl ?_|(refine E7e rfl rfl rfl (fun b=>?_);cases b)|(refine A8 A1 2 rfl rfl rfl (fun bz i hi hbs=>?_);replace hv:=hv.le hi;try replace g1:=hi.blk _ _ g1)|(refine P2 A1 (sz:=2) (bytes:=32) rfl rfl rfl hO (hbs.rd _) ⟨_,rfl,rfl⟩ ⟨_,rfl,rfl,rfl⟩ (by omega) (F4 rfl) (by omega) (by omega) ?_;intro a2 c2 O hO)|refine R4 rfl rfl rfl (fun h=>?_) (fun h=>?_)|refine D4 (D9 (l:=A6u p) A1 rfl (Has.imm g1) rfl rfl rfl q1) rfl ?_)
    all_goals first
     |exact⟨l.length-(k+1),by omega,k+1,a,a2,c2,true,O,rfl,hlt,by simp;omega,haok,rfl,hO,hv,rfl⟩
     |exact⟨l.length-(k+1),by omega,k+1,a++[(nm,vl)],a2,c2,true,O,rfl,hlt,by simp;omega,haok.snoc ⟨hn,hvl⟩,by rw[E9h];rfl,by rw[E9h,S1];exact hO,hv,rfl⟩
     |exact⟨l.length-(k+1),by omega,k+1,a++[p],a2,c2,true,O,rfl,hlt,by simp;omega,haok.snoc hpok,by rw[E9h];rfl,by rw[E9h,S1];exact hO,hv,rfl⟩
     |exact⟨l.length-(k+1),by omega,k+1,(a++[(nm,vl)])++[p],a2,c2,true,O,rfl,hlt,by simp;omega,(haok.snoc ⟨hn,hvl⟩).snoc hpok,by rw[E9h,E9h];rfl,by rw[E9h,E9h,S1,S1];exact hO,hv,rfl⟩
     |exact⟨l.length-(k+1),by omega,k+1,a,a2,c2,false,O,rfl,hlt,by simp;omega,haok,rfl,hO,hv,rfl⟩
     |exact⟨l.length-(k+1),by omega,k+1,a++[(nm,vl)],a2,c2,false,O,rfl,hlt,by simp;omega,haok.snoc ⟨hn,hvl⟩,by rw[E9h];rfl,by rw[E9h,S1];exact hO,hv,rfl⟩
     |exact⟨l.length-(k+1),by omega,k+1,a++[p],a2,c2,false,O,rfl,hlt,by simp;omega,haok.snoc hpok,by rw[E9h];rfl,by rw[E9h,S1];exact hO,hv,rfl⟩
     |exact⟨l.length-(k+1),by omega,k+1,(a++[(nm,vl)])++[p],a2,c2,false,O,rfl,hlt,by simp;omega,(haok.snoc ⟨hn,hvl⟩).snoc hpok,by rw[E9h,E9h];rfl,by rw[E9h,E9h,S1,S1];exact hO,hv,rfl⟩
   ·cases d
    all_goals
     simp only[if_true,if_false,Bool.false_eq_true,Nat.add_zero] at hak;repeat' (first|refine zp rfl ?_|refine zn ?_|refine A2 rfl ?_|refine A0 rfl ?_|refine zs [4,11,12,13] rfl ?_|refine zf rfl rfl (by omega) rfl ?_|(refine A8 A1 2 rfl rfl rfl (fun bz i hi hbs=>?_);replace hv:=hv.le hi;try replace g1:=hi.blk _ _ g1)|(refine P2 A1 (sz:=2) (bytes:=32) rfl rfl rfl hO (hbs.rd _) ⟨_,rfl,rfl⟩ ⟨_,rfl,rfl,rfl⟩ (by omega) (F4 rfl) (by omega) (by omega) ?_;intro a2 c2 O hO))
    all_goals first
     |exact⟨(),_,_,O,⟨a,rfl,rfl,by omega,haok⟩,hO,rfl⟩
     |exact⟨(),_,_,O,⟨a++[(nm,vl)],by rw[E9h];rfl,by rw[S1];rfl,by simp;omega,haok.snoc ⟨hn,hvl⟩⟩,hO,rfl⟩
 have k2:=A7n (φ:=fun(_:Unit) v i' n xs=>∃l':List (ByteArray×ByteArray),n=l'.length∧xs=attrs l'∧l'.length≤l.length+1∧∀p∈l',B1v p) (B:=fun _=>L) (fun _ _ _ _ _ _ _ h=>h) key;refine k2.mono ?_;rintro v i' L' _ ⟨_,n,xs,⟨l',rfl,rfl,h1,h2⟩,h3,h4⟩;exact⟨⟨l',⟨h3,by omega,h2⟩,h1⟩,h4⟩
theorem Attrs_t(tp:Nat)(lv:Value)(a:Int)(i:Imm)(L:SH)(hl:I5 i lv)(ha:0≤a∧a≤600000000000):
 E6 E9c 67 [.pointer (some ⟨tp,0,none⟩)] i ((tp,B5 lv a)::L) fun r i' L'=>(∃l,S7 i' r l∧l.length≤4)∧∃a',a≤a'∧a'≤a+20∧L'=(tp,B5 lv a')::L:=by
 refine A5 Tryz.func67 rfl rfl (by simp) rfl ?_;repeat' (first|refine zp rfl ?_|refine zn ?_|refine zs [0,1,2] rfl ?_|(refine A7 (J7 _ 0 _ _ _ _ _ hl rfl (by omega) (by omega)) rfl (by kernel_rfl) rfl ?_;rintro _ _ _-⟨x,rfl,⟨hx0,hx1⟩,rfl,rfl⟩))
 refine B1 [0,3,4] (fun m vs i' L'=>∃(l:List (ByteArray×ByteArray))(v:Value)(k:Nat)(a':Int),k=m∧l.length+k≤4∧k≤4∧a≤a'∧a'+4*k≤a+18∧vs=[.pointer (some ⟨tp,0,none⟩),v,.int .i64 (k:Int)]∧S7 i' v l∧I5 i' lv∧L'=(tp,B5 lv a')::L) _ ⟨[],.slice none 0 0,x.toNat,a+1,rfl,by simp;omega,by omega,by omega,by omega,by rw[show((x.toNat:Nat):Int)=x by omega];rfl,⟨⟨_,_,rfl,rfl,.inl rfl⟩,by simp,(fun p hp=>by cases hp)⟩,hl,rfl⟩ ?_;clear hl;rintro m g vs i _ hi ⟨l,v,k,a',rfl,hlk,hk,ha1,ha2,rfl,hv,hl,rfl⟩;obtain⟨ao,cap,rfl,_⟩:=id hv.1;by_cases h0:0<k
 ·repeat' (first|refine zp rfl ?_|refine zn ?_|refine A2 rfl ?_|refine A3 ?_|refine A6 (J4 rfl rfl (by omega)) rfl ?_|refine A6 (H3 rfl rfl (by omega)) rfl ?_|(refine A8 A1 1 rfl rfl rfl (fun b i hi hs=>?_);replace hl:=hl.le hi;(try replace hv:=hv.le hi))|(refine A7 (A6b 64 _ 0 _ _ _ _ _ _ _ hl hs rfl rfl rfl rfl rfl (by omega)) rfl (by kernel_rfl) rfl ?_;rintro _ _ _-⟨s,rfl,hsz,rfl,rfl⟩)|(refine A7 (Set_t _ l _ _ _ _ hv (by assumption) (by assumption) (by omega)) rfl (by kernel_rfl) rfl ?_;rintro w i _ hi' ⟨⟨l',hv',hl'⟩,rfl⟩;replace hl:=hl.le hi';obtain⟨aw,cw,rfl,_⟩:=id hv'.1))
  exact⟨k-1,by omega,l',_,k-1,_,rfl,by omega,by omega,by omega,by omega,by rw[show((k-1:Nat):Int)=(k:Int)-1 by omega];rfl,hv',hl,rfl⟩
 ·repeat' (first|refine zp rfl ?_|refine zn ?_|refine A0 rfl ?_|refine zs [3,6] rfl ?_|refine A6 (I0 rfl rfl (by omega)) rfl ?_)
  exact⟨⟨l,hv,by omega⟩,a',by omega,by omega,rfl⟩
theorem D4n(i:Imm)(L:SH):
 E6 E9c 69 [] i L fun r i' L'=>(∃b cs,r=.slice (some ⟨b,0,none⟩) 9 9∧Sl i' r 1 9 cs∧strs (A0q cs)=cs∧D8c 64 cs=true)∧L'=L:=by
 refine A5 Tryz.func69 rfl rfl (by simp) rfl ?_;repeat' (first|refine zp rfl ?_|refine zn ?_|refine A3 ?_|refine A8 A1 1 rfl rfl rfl (fun b i hi hs=>?_))
 exact⟨⟨b,_,rfl,hs,rfl,rfl⟩,rfl⟩
end Go.Proofs.YtckdkhhpjnefpaaGreatDoor
namespace Go.Proofs
open Go.Shelf
def B3d:Go.Shelf.Ren:=⟨fun|106=>120|213=>171|265=>234|n=>n,fun|9=>9|3=>3|n=>n,fun|n=>n⟩
theorem C5b:Go.Proofs.Lays.n106 E9c B3d:={
 mixed:=by kernel_rfl
 f106:=Tryz.func120.trans (congrArg some (by kernel_rfl))
 f213:=Tryz.func171.trans (congrArg some (by kernel_rfl))
 f265:=Tryz.func234.trans (congrArg some (by kernel_rfl))
 t3:=Tryz.underlying3
 a3:=Tryz.isAgg3
 z3:=Tryz.sizeOf3
 v3:=Tryz.zeroValue3
 t9:=Tryz.underlying9
 a9:=Tryz.isAgg9
 z9:=Tryz.sizeOf9
 v9:=Tryz.zeroValue9}
open Go.RowKit in
theorem Tryz.strings_Compare(a b:ByteArray)(w:World):
 Calls E9c 120 #[.string a,.string b] w fun e w'=>e=.returned (.int .i64 (Lib.compareBytes a.data.toList b.data.toList))∧w'=w:=Any.strings_Compare C5b a b w
def B3b:Go.Shelf.Ren:=⟨fun|144=>168|143=>232|219=>285|217=>253|225=>317|224=>318|267=>319|266=>300|314=>339|n=>n,fun|9=>9|4=>4|3=>3|5=>5|46=>214|146=>382|51=>262|n=>n,fun|1=>0|n=>n⟩
theorem C4z:Go.Proofs.Lays.n144 E9c B3b:={
 mixed:=by kernel_rfl
 f143:=Tryz.func232.trans (congrArg some (by kernel_rfl))
 f144:=Tryz.func168.trans (congrArg some (by kernel_rfl))
 f217:=Tryz.func253.trans (congrArg some (by kernel_rfl))
 f219:=Tryz.func285.trans (congrArg some (by kernel_rfl))
 f224:=Tryz.func318.trans (congrArg some (by kernel_rfl))
 f225:=Tryz.func317.trans (congrArg some (by kernel_rfl))
 f266:=Tryz.func300.trans (congrArg some (by kernel_rfl))
 f267:=Tryz.func319.trans (congrArg some (by kernel_rfl))
 f314:=Tryz.func339.trans (congrArg some (by kernel_rfl))
 t3:=Tryz.underlying3
 a3:=Tryz.isAgg3
 z3:=Tryz.sizeOf3
 v3:=Tryz.zeroValue3
 t4:=Tryz.underlying4
 a4:=Tryz.isAgg4
 z4:=Tryz.sizeOf4
 v4:=Tryz.zeroValue4
 t5:=Tryz.underlying5
 a5:=Tryz.isAgg5
 z5:=Tryz.sizeOf5
 v5:=Tryz.zeroValue5
 t9:=Tryz.underlying9
 a9:=Tryz.isAgg9
 z9:=Tryz.sizeOf9
 v9:=Tryz.zeroValue9
 t46:=Tryz.underlying214
 a46:=Tryz.isAgg214
 z46:=Tryz.sizeOf214
 v46:=Tryz.zeroValue214
 t51:=Tryz.underlying262
 a51:=Tryz.isAgg262
 z51:=Tryz.sizeOf262
 v51:=Tryz.zeroValue262
 t146:=Tryz.underlying382
 a146:=Tryz.isAgg382
 z146:=Tryz.sizeOf382
 v146:=Tryz.zeroValue382
 g1:=by kernel_rfl}
open Go.RowKit Go.Lib in
theorem Tryz.strings_Contains_one(s:ByteArray)(c:UInt8)(w:World):
 Calls E9c 168 #[.string s,.string ⟨#[c]⟩] w fun e w'=>e=.returned (.bool (decide (0≤Lib.indexByte s.data.toList c)))∧w'=w:=Any.strings_Contains_one C4z s c w
end Go.Proofs
namespace Go.Proofs.YtckdkhhpjnefpaaGreatDoor
open Go Go.Eng Go.RowKit
theorem D4p(s:ByteArray)(c:UInt8)(i:Imm)(L:SH):
 E6 E9c 168 [.string s,.string ⟨#[c]⟩] i L fun v i' L'=>YN v i i' L L':=
 (A0z fun w=>Tryz.strings_Contains_one s c w).mono fun _ _ _ _ ⟨h1,h2,h3⟩=>⟨_,h1,h2,h3⟩
theorem B4m(s:ByteArray)(i:Imm)(L:SH)(hs:Y1 s):
 E6 E9c 115 [.string s] i L fun v i' L'=>YN v i i' L L':=by
 refine A5 Tryz.func115 rfl rfl (by simp) rfl ?_;repeat' (first|refine zp rfl ?_|refine zn ?_|refine A3 ?_|refine C9 _ (W2 _ _ _ (by first|assumption|omega)) rfl (by kernel_rfl) rfl ?_ ?_<;>rintro i L-⟨rfl,rfl⟩|refine O5 rfl rfl rfl (fun h=>?_) (fun h=>?_)|refine C9 _ (D4p _ _ _ _) rfl (by kernel_rfl) rfl ?_ ?_<;>rintro i L-⟨rfl,rfl⟩)
 all_goals exact⟨_,rfl,rfl,rfl⟩
theorem D2q(l:List Value)(d:Dev)(i:Imm)(L:SH)(hg:Glb i)(hd:R6 i l d):
 E6 E9c 116 [.agg (E9d l)] i L fun r i' L'=>(∃s b,r=.tuple #[.string s,.bool b]∧s.size≤200)∧i'=i∧L'=L:=by
 have key:E6 E9c 116 [.agg (E9d l)] i L fun r i' L'=>∃G,((∃s b,r=.tuple #[.string s,.bool b]∧s.size≤200)∧i'=i)∧L'=G++L:=by
  obtain⟨ao,cap,rfl,hat,hok⟩:=hd;have hog:=hok.og;refine G4 Tryz.func116 rfl rfl (by simp) rfl ?_;repeat' (first|refine zp rfl ?_|refine zn ?_|refine A2 rfl ?_|refine A0 rfl ?_|refine A3 ?_|refine E4 rfl rfl (fun b1=>?_)|refine zo 0 rfl rfl rfl rfl ?_|refine J1 rfl rfl rfl (fun h=>?_) (fun h=>?_)|(refine A7 (Z1 _ _ _ _ _ hg (by omega) (by decide) (by decide)) rfl (by kernel_rfl) rfl ?_;rintro _ i _-⟨s,rfl,hs,rfl,rfl⟩))
  all_goals first
   |exact⟨[_],⟨⟨_,_,rfl,E9w rfl⟩,rfl⟩,rfl⟩
   |exact⟨[_],⟨⟨_,_,rfl,by have hz:(F0y #[47]).size=1:=rfl;rw[hz] at hs;omega⟩,rfl⟩,rfl⟩
 exact(E6.drop (φ:=fun r i'=>(∃s b,r=.tuple #[.string s,.bool b]∧s.size≤200)∧i'=i) key).mono fun _ _ _ _ ⟨⟨h1,h2⟩,h3⟩=>⟨h1,h2,h3⟩
theorem E6z(v:Value)(l:List (ByteArray×ByteArray))(i:Imm)(L:SH)(hv:S7 i v l):
 E6 E9c 117 [v] i L fun v i' L'=>YN v i i' L L':=by
 obtain⟨ao,cap,rfl,_⟩:=id hv.1;have hn:=hv.2.1;refine A5 Tryz.func117 rfl rfl (by simp) rfl ?_;repeat' (first|refine zp rfl ?_|refine zn ?_|refine zs [0,1] rfl ?_)
 refine B1 [0,3] (fun m vs i' L'=>∃k:Nat,m=l.length-k∧k≤l.length+1∧1≤k∧vs=[.slice ao l.length cap,.int .i64 (k:Int)]∧i'=i∧L'=L) _ ⟨1,rfl,by omega,by omega,rfl,rfl,rfl⟩ ?_;rintro m g vs i' L' hi ⟨k,rfl,hk,hk1,rfl,rfl,rfl⟩;by_cases hlt:k<l.length
 ·obtain⟨p,hp⟩:=zi l k hlt;obtain⟨q,hq⟩:=zi l (k-1) (by omega);obtain⟨b1,o1,c1,t1,z1,p1,e1,g1,q1⟩:=hv.atc hp;obtain⟨b2,o2,c2,t2,z2,p2,e2,g2,q2⟩:=hv.atc hq;cases e1;cases e2;rw[show((k-1:Nat):Int)=(k:Int)-1 by omega] at q2;repeat' (first|refine zp rfl ?_|refine zq rfl ?_|refine zn ?_|refine A2 rfl ?_|refine A0 rfl ?_|refine zs [2,3,5] rfl ?_|refine C8 (id:=4) J9 (by kernel_rfl) ?_|refine zt rfl rfl (by omega) rfl ?_|refine zd rfl rfl (by omega) rfl ?_|refine D3 (H3 rfl rfl (by omega)) rfl ?_|refine D3 (A9 A1 rfl rfl rfl (by omega)) rfl ?_|refine F0 (B2 A1 rfl (Has.imm g2) rfl (q2 0 _ rfl)) rfl ?_|refine F0 (B2 A1 rfl (Has.imm g1) rfl (q1 0 _ rfl)) rfl ?_|(refine E7g rfl rfl rfl (fun b=>?_);cases b))
  all_goals first|exact⟨_,rfl,rfl,rfl⟩|exact⟨l.length-(k+1),by omega,k+1,rfl,by omega,by omega,rfl,rfl,rfl⟩
 ·repeat' (first|refine zp rfl ?_|refine zn ?_|refine A0 rfl ?_|refine zs [2,6] rfl ?_|refine zf rfl rfl (by omega) rfl ?_)
  exact⟨_,rfl,rfl,rfl⟩
theorem LinkN_t(s:ByteArray)(i:Imm)(L:SH)(hg:Glb i)(hs:s.size≤1000):
 E6 E9c 118 [.string s] i L fun v i' L'=>(∃b,v=.bool b)∧L'=L:=by
 refine A5 Tryz.func118 rfl rfl (by simp) rfl ?_;repeat' (first|refine zp rfl ?_|refine zn ?_|refine zs [0,1,2] rfl ?_|(refine A7 (D7e 1000 _ _ _ _ hg (by omega) (by decide) hs) rfl (by kernel_rfl) rfl ?_;rintro _ i L hi ⟨⟨ao,ss,rfl,hss,hB,hn1,hn2⟩,rfl⟩))
 refine B1 [0,3,4] (fun m vs i' L'=>∃k:Nat,m=ss.length-k∧k≤ss.length∧vs=[.string s,.slice ao ss.length ss.length,.int .i64 (k:Int)]∧i'=i∧L'=L) _ ⟨0,rfl,E9k _,rfl,rfl,rfl⟩ ?_;rintro m g vs i' L' hi ⟨k,rfl,hk,rfl,rfl,rfl⟩;by_cases hlt:k<ss.length
 ·obtain⟨x,hx⟩:=zi ss k hlt;obtain⟨b1,o1,c1,t1,z1,p1,e1,g1,h1⟩:=hss.at hlt (by omega);cases e1;have q1:=h1 0 (by omega);rw[A0g,hx] at q1;have hxs:=hB x (E9g hx);repeat' (first|refine zp rfl ?_|refine zn ?_|refine A2 rfl ?_|refine A0 rfl ?_|refine zs [3,4,5,6] rfl ?_|refine zt rfl rfl (by omega) rfl ?_|refine zd rfl rfl (by omega) rfl ?_|refine zx rfl rfl rfl (by omega) rfl ?_|refine zm g1 q1 rfl rfl rfl ?_|refine I9 rfl rfl rfl (fun h=>?_) (fun h=>?_)|refine C9 _ (in_t _ _ _ _ (by omega)) rfl (by kernel_rfl) rfl ?_ ?_<;>rintro i L-⟨rfl,rfl⟩)
  all_goals first|exact⟨⟨_,rfl⟩,rfl⟩|exact⟨ss.length-(k+1),by omega,k+1,rfl,by omega,rfl,rfl,rfl⟩
 ·repeat' (first|refine zp rfl ?_|refine zn ?_|refine A0 rfl ?_|refine zs [3,7] rfl ?_|refine zf rfl rfl (by omega) rfl ?_|refine O5 rfl rfl rfl (fun h=>?_) (fun h=>?_))
  all_goals exact⟨⟨_,rfl⟩,rfl⟩
set_option maxRecDepth 100000 in
theorem D4u(l:List Value)(d:Dev)(i:Imm)(L:SH)(hg:Glb i)(hd:R6 i l d):
 E6 E9c 62 [.agg (E9d l)] i L fun r i' L'=>(∃e,r=.int .i64 e)∧L'=L:=by
 refine E6.drop ?_;obtain⟨ao,cap,rfl,hat,hok⟩:=hd;have hog:=hok.og;have hnm:=hok.nm;have hsu:=hok.su;have hdr:=hok.dr;have hal:=hok.al;have hn:=hat.2.1;have haok:=hat.2.2;refine A5 Tryz.func62 rfl rfl (by simp) rfl ?_;repeat' (first|refine zn ?_|refine A2 rfl ?_|refine A0 rfl ?_|(refine zr 0 ?_;refine E4 rfl rfl (fun b1=>?_);(all_goals refine zp rfl ?_);(all_goals refine zn ?_))|(refine zr 1 ?_;refine zp rfl ?_;(refine zo 0 rfl rfl rfl rfl ?_);(refine I1 rfl rfl rfl (fun h=>?_) (fun h=>?_));(all_goals refine zp rfl ?_);(all_goals(first|refine zp rfl ?_|refine zp rfl ?_));(all_goals(first|refine zo 0 rfl rfl rfl rfl ?_|refine zp rfl ?_));(all_goals(first|refine H0 rfl rfl rfl (fun h=>?_) (fun h=>?_)|refine zp rfl ?_));(all_goals refine zp rfl ?_);(all_goals refine zp rfl ?_);(all_goals(first|refine zp rfl ?_|refine zp rfl ?_));(all_goals(first|refine zo 0 rfl rfl rfl rfl ?_|refine zp rfl ?_));(all_goals(first|refine I1 rfl rfl rfl (fun h=>?_) (fun h=>?_)|refine zp rfl ?_));(all_goals refine zp rfl ?_);(all_goals refine zp rfl ?_);(all_goals(first|refine zp rfl ?_|refine zp rfl ?_));(all_goals(first|refine zo 0 rfl rfl rfl rfl ?_|refine zp rfl ?_));(all_goals(first|refine H0 rfl rfl rfl (fun h=>?_) (fun h=>?_)|refine zp rfl ?_));(all_goals refine zp rfl ?_);(all_goals refine zp rfl ?_);(all_goals(first|refine zp rfl ?_|refine zp rfl ?_));(all_goals(first|refine zo 0 rfl rfl rfl rfl ?_|refine zp rfl ?_));(all_goals(first|refine zp rfl ?_|refine zp rfl ?_));(all_goals(first|refine zo 0 rfl rfl rfl rfl ?_|refine zp rfl ?_));(all_goals(first|refine E1 rfl rfl rfl (fun h=>?_) (fun h=>?_)|refine zp rfl ?_));(all_goals refine zp rfl ?_);(all_goals refine zn ?_))|(refine zr 2 ?_;refine zp rfl ?_;refine zn ?_)|(refine zr 3 ?_;refine zp rfl ?_;(refine zo 0 rfl rfl rfl rfl ?_);(refine C9 _ (W2 _ _ _ (by first|assumption|omega)) rfl (by kernel_rfl) rfl ?_ ?_<;>rintro i L-⟨rfl,rfl⟩);(all_goals refine zp rfl ?_);(all_goals refine zp rfl ?_);(all_goals(first|refine zp rfl ?_|refine zp rfl ?_));(all_goals(first|refine zo 0 rfl rfl rfl rfl ?_|refine zp rfl ?_));(all_goals(first|(refine C9 _ (W2 _ _ _ (by first|assumption|omega)) rfl (by kernel_rfl) rfl ?_ ?_<;>rintro i L-⟨rfl,rfl⟩)|refine zp rfl ?_));(all_goals(first|refine zp rfl ?_|refine zp rfl ?_));(all_goals refine zp rfl ?_);(all_goals refine zp rfl ?_);(all_goals(first|refine zp rfl ?_|refine zp rfl ?_));(all_goals(first|refine zo 0 rfl rfl rfl rfl ?_|refine zp rfl ?_));(all_goals(first|(refine C9 _ (W2 _ _ _ (by first|assumption|omega)) rfl (by kernel_rfl) rfl ?_ ?_<;>rintro i L-⟨rfl,rfl⟩)|refine zp rfl ?_));(all_goals(first|refine zp rfl ?_|refine zp rfl ?_));(all_goals refine zp rfl ?_);(all_goals refine zp rfl ?_);(all_goals(first|refine zp rfl ?_|refine zp rfl ?_));(all_goals(first|refine zo 0 rfl rfl rfl rfl ?_|refine zp rfl ?_));(all_goals(first|refine R4 rfl rfl rfl (fun h=>?_) (fun h=>?_)|refine zp rfl ?_));(all_goals(first|refine zp rfl ?_|refine zp rfl ?_));(all_goals(first|refine zp rfl ?_|refine zp rfl ?_));(all_goals(first|refine zo 0 rfl rfl rfl rfl ?_|refine zp rfl ?_));(all_goals(first|(refine C9 _ (W2 _ _ _ (by first|assumption|omega)) rfl (by kernel_rfl) rfl ?_ ?_<;>rintro i L-⟨rfl,rfl⟩)|refine zp rfl ?_));(all_goals(first|refine zp rfl ?_|refine zp rfl ?_));(all_goals(first|refine zp rfl ?_|refine zp rfl ?_));(all_goals refine zp rfl ?_);(all_goals refine zp rfl ?_);(all_goals(first|refine zp rfl ?_|refine zp rfl ?_));(all_goals(first|refine zo 0 rfl rfl rfl rfl ?_|refine zp rfl ?_));(all_goals(first|(refine C9 _ (C3a _ _ _ (by first|assumption|omega)) rfl (by kernel_rfl) rfl ?_ ?_<;>rintro i L-⟨rfl,rfl⟩)|refine zp rfl ?_));(all_goals(first|refine zp rfl ?_|refine zp rfl ?_));(all_goals refine zp rfl ?_);(all_goals refine zn ?_))|(refine zr 4 ?_;refine zp rfl ?_;refine zn ?_)|(refine zr 5 ?_;refine zp rfl ?_;(refine zo 0 rfl rfl rfl rfl ?_);(refine I1 rfl rfl rfl (fun h=>?_) (fun h=>?_));(all_goals refine zp rfl ?_);(all_goals(first|refine zp rfl ?_|refine zp rfl ?_));(all_goals(first|refine zo 0 rfl rfl rfl rfl ?_|refine zp rfl ?_));(all_goals(first|refine H0 rfl rfl rfl (fun h=>?_) (fun h=>?_)|refine zp rfl ?_));(all_goals refine zp rfl ?_);(all_goals refine zn ?_))|(refine zr 6 ?_;refine zp rfl ?_;refine zn ?_)|(refine zr 7 ?_;refine zp rfl ?_;(refine zo 0 rfl rfl rfl rfl ?_);(refine E1 rfl rfl rfl (fun h=>?_) (fun h=>?_));(all_goals refine zp rfl ?_);(all_goals(first|refine zp rfl ?_|refine zp rfl ?_));(all_goals(first|refine zo 0 rfl rfl rfl rfl ?_|refine zp rfl ?_));(all_goals(first|(refine C9 _ (B4m _ _ _ (by first|assumption|omega)) rfl (by kernel_rfl) rfl ?_ ?_<;>rintro i L-⟨rfl,rfl⟩)|refine zp rfl ?_));(all_goals(first|refine zp rfl ?_|refine zp rfl ?_));(all_goals(first|refine zp rfl ?_|refine zp rfl ?_));(all_goals(first|refine zp rfl ?_|refine zp rfl ?_));(all_goals(first|refine zo 0 rfl rfl rfl rfl ?_|refine zp rfl ?_));(all_goals(first|(refine C9 _ (B4m _ _ _ (by first|assumption|omega)) rfl (by kernel_rfl) rfl ?_ ?_<;>rintro i L-⟨rfl,rfl⟩)|refine zp rfl ?_));(all_goals(first|refine zp rfl ?_|refine zp rfl ?_));(all_goals(first|refine zp rfl ?_|refine zp rfl ?_));(all_goals refine zp rfl ?_);(all_goals refine zp rfl ?_);(all_goals(first|refine zp rfl ?_|refine zp rfl ?_));(all_goals(first|refine zo 0 rfl rfl rfl rfl ?_|refine zp rfl ?_));(all_goals(first|refine A6 (T1 rfl rfl (by omega)) rfl ?_|refine A6 (T3 rfl rfl (by omega)) rfl ?_|refine zp rfl ?_));(all_goals(first|refine zp rfl ?_|refine zp rfl ?_));(all_goals(first|refine zp rfl ?_|refine zp rfl ?_));(all_goals(first|refine zo 0 rfl rfl rfl rfl ?_|refine zp rfl ?_));(all_goals(first|refine zp rfl ?_|refine zp rfl ?_));(all_goals(first|refine zo 0 rfl rfl rfl rfl ?_|refine zp rfl ?_));(all_goals(first|refine R4 rfl rfl rfl (fun h=>?_) (fun h=>?_)|refine zp rfl ?_));(all_goals(first|refine zp rfl ?_|refine zp rfl ?_));(all_goals refine zp rfl ?_);(all_goals refine zn ?_))|(refine zr 8 ?_;refine zp rfl ?_;refine zn ?_)|(refine zr 9 ?_;(refine zo 0 rfl rfl rfl rfl ?_);(refine A7 (D2q (W4 d (.slice ao d.attrs.length cap)) d _ _ hg ⟨ao,cap,rfl,hat,hok⟩) rfl (by kernel_rfl) rfl ?_;rintro _ i L-⟨⟨nd,hasb,rfl,hnd⟩,rfl,rfl⟩;cases hasb);(all_goals refine zp rfl ?_);(all_goals refine zp rfl ?_);(all_goals refine zp rfl ?_);(all_goals refine zp rfl ?_);(all_goals refine zp rfl ?_);(all_goals refine zn ?_))|(refine zr 10 ?_;refine zp rfl ?_;refine zp rfl ?_;(first|refine zp rfl ?_|refine zp rfl ?_);(first|refine zo 0 rfl rfl rfl rfl ?_|refine zp rfl ?_);(first|refine I1 rfl rfl rfl (fun h=>?_) (fun h=>?_)|refine zp rfl ?_);(all_goals(first|refine zp rfl ?_|refine zp rfl ?_));(all_goals(first|refine zp rfl ?_|refine zp rfl ?_));(all_goals(first|refine zo 0 rfl rfl rfl rfl ?_|refine zp rfl ?_));(all_goals(first|refine H0 rfl rfl rfl (fun h=>?_) (fun h=>?_)|refine zp rfl ?_));(all_goals(first|refine zp rfl ?_|refine zp rfl ?_));(all_goals refine zp rfl ?_);(all_goals refine zp rfl ?_);(all_goals(first|refine zp rfl ?_|refine zp rfl ?_));(all_goals(first|refine zp rfl ?_|refine zp rfl ?_));(all_goals(first|refine zp rfl ?_|refine zp rfl ?_));(all_goals(first|refine zp rfl ?_|refine zp rfl ?_));(all_goals(first|refine zo 0 rfl rfl rfl rfl ?_|refine zp rfl ?_));(all_goals(first|refine J1 rfl rfl rfl (fun h=>?_) (fun h=>?_)|refine zp rfl ?_));(all_goals(first|refine zp rfl ?_|refine zp rfl ?_));(all_goals refine zp rfl ?_);(all_goals refine zn ?_))|(refine zr 11 ?_;refine zp rfl ?_;refine zn ?_)|(refine zr 12 ?_;refine zp rfl ?_;(refine zo 0 rfl rfl rfl rfl ?_);(refine zp rfl ?_);(refine A6 (I0 rfl rfl (by omega)) rfl ?_);(all_goals refine zn ?_))|(refine zr 14 ?_;refine zp rfl ?_;refine zn ?_))
 all_goals first
  |exact⟨[_],⟨_,rfl⟩,rfl⟩
  |skip
 all_goals
  refine B1 [1,3,4,5] (fun m vs i' L'=>∃k:Nat,m=d.attrs.length-k∧k≤d.attrs.length∧vs=[.pointer (some ⟨b1,0,none⟩),.string nd,.bool _,.int .i64 (k:Int)]∧i'=i∧L'=(b1,.cells (E9d (W4 d (.slice ao d.attrs.length cap))) 56 (0,0))::L) _ ⟨0,rfl,E9k _,rfl,rfl,rfl⟩ ?_;rintro m g vs i' L' hi ⟨k,rfl,hk,rfl,rfl,rfl⟩;by_cases hlt:k<d.attrs.length
  ·obtain⟨p,hp⟩:=zi d.attrs k hlt;obtain⟨b2,o1,c1,t1,z1,p1,e1,g1,q1⟩:=hat.atc hp;cases e1;obtain⟨hp1,hp2⟩:=haok p (E9g hp);repeat' (first|refine zp rfl ?_|refine zn ?_|refine A2 rfl ?_|refine A0 rfl ?_|refine zs [15,16,17,18] rfl ?_|refine zo 0 rfl rfl rfl rfl ?_|refine zt rfl rfl (by omega) rfl ?_|refine zd rfl rfl (by omega) rfl ?_|refine zx rfl rfl rfl (by omega) rfl ?_|refine zm g1 (q1 0 _ rfl) rfl rfl rfl ?_|refine C9 _ (W2 _ _ _ (by first|assumption|omega)) rfl (by kernel_rfl) rfl ?_ ?_<;>rintro i L-⟨rfl,rfl⟩|refine zm g1 (q1 1 _ rfl) rfl rfl rfl ?_|refine C9 _ (C3a _ _ _ (by first|assumption|omega)) rfl (by kernel_rfl) rfl ?_ ?_<;>rintro i L-⟨rfl,rfl⟩|refine I9 rfl rfl rfl (fun h=>?_) (fun h=>?_))
   all_goals first
    |exact⟨[_],⟨_,rfl⟩,rfl⟩
    |exact⟨d.attrs.length-(k+1),by omega,k+1,rfl,hlt,rfl,rfl,rfl⟩
  ·repeat' (first|refine zp rfl ?_|refine zn ?_|refine A2 rfl ?_|refine A0 rfl ?_|refine zs [15,19,20,21,22,23] rfl ?_|refine zo 0 rfl rfl rfl rfl ?_|refine zf rfl rfl (by omega) rfl ?_|refine C9 _ (E6z _ d.attrs _ _ hat) rfl (by kernel_rfl) rfl ?_ ?_<;>rintro i L-⟨rfl,rfl⟩|refine C9 (fun _ _ L'=>L'=_) ((LinkN_t _ _ _ hg (by omega)).mono fun _ _ _ _ ⟨⟨b,h1⟩,h2⟩=>⟨b,h1,h2⟩) rfl (by kernel_rfl) rfl ?_ ?_<;>rintro i L hi rfl)
   all_goals exact⟨[_],⟨_,rfl⟩,rfl⟩
def Z5(ds:List Dev)(n:Int):List ByteArray:=((chD ds ds.length n).map (·.original)).reverse
theorem C8p(ds:List Dev)(n:Int):(Z5 ds n).length≤ds.length:=by
 have:=B0d ds ds.length n
 simp[Z5];exact this
theorem D8t{c:List Dev}{k:Nat}{d:Dev}(h:c[k]?=some d):((c.drop k).map (·.original)).reverse=((c.drop (k+1)).map (·.original)).reverse++[d.original]:=by
 rw[Glob.drop_cons h];simp
theorem C0w(l:List ByteArray)(x:ByteArray):strs (l++[x])=strs l++[.string x]:=by simp[strs]
theorem C9w(v:Value)(ds:List Dev)(n:Int)(i:Imm)(L:SH)(hv:V4 i v ds):
 E6 E9c 64 [.agg #[v],.int .i64 n] i L fun r i' L'=>∃O,J2 9 r 1 (Z5 ds n).length (strs (Z5 ds n)) O∧L'=O++L:=by
 refine E6.state (K:=fun r i' L'=>∃O G,J2 9 r 1 (Z5 ds n).length (strs (Z5 ds n)) O∧L'=O++(G++L)) ?_ ?_;rotate_left
 ·rintro r i' L' w _ hst ⟨O,G,hO,rfl⟩;exact⟨i',_,Imm.le.refl i',hst.dropMid,O,hO,rfl⟩
 have hcl:=B0d ds ds.length n;obtain⟨c,hc⟩:∃c,c=chD ds ds.length n:=⟨_,rfl⟩;have hlen:ds.length≤256:=by obtain⟨_,_,_,h⟩:=id hv;exact h
 obtain⟨_,⟨ao,cap,rfl,_⟩,_⟩:=id hv;refine A5 Tryz.func64 rfl rfl (by simp) rfl ?_;repeat' (first|refine zp rfl ?_|refine zn ?_|refine zs [0,1,2,3] rfl ?_|refine E4 rfl rfl (fun b2=>?_)|refine zo 0 rfl rfl rfl rfl ?_|(refine A7 (Chain_t _ ds n _ _ hv) rfl (by kernel_rfl) rfl ?_;rintro _ i L hi ⟨⟨cs,hs,hd,hcap⟩,hLL⟩;subst hLL;obtain⟨a1,c1,rfl,_⟩:=id hs)|refine A6 (H3 rfl rfl (by omega)) rfl ?_)
 unfold Z5;rw[←hc] at hcl hs hd⊢;clear hc;refine B1 [5,6,7] (fun m vs i' L'=>∃(k:Nat)(a2:Option Addr)(c2:Nat)(O:SH),m=k∧k≤c.length∧vs=[.slice a2 (((c.drop k).map (·.original)).reverse).length c2,.slice a1 c.length c1,.int .i64 ((k:Int)-1)]∧J2 9 (.slice a2 (((c.drop k).map (·.original)).reverse).length c2) 1 (((c.drop k).map (·.original)).reverse).length (strs (((c.drop k).map (·.original)).reverse)) O∧i.le i'∧L'=O++((b2,.cells [.slice ao ds.length cap].toArray 46 (0,0))::L)) _ ⟨c.length,none,0,[],rfl,E9q _,by rw[List.drop_length];rfl,by rw[List.drop_length];exact J2.nil 9 1,Imm.le.refl _,rfl⟩ ?_;rintro m g vs i1 _ hi1 ⟨k,a2,c2,O,hm,hk,rfl,hO,hle,rfl⟩;subst hm;by_cases h0:0<m
 ·obtain⟨d,hdd⟩:=zi c (m-1) (by omega);have e0:=D8t hdd;rw[show m-1+1=m by omega] at e0;obtain⟨b1,o1,cc,t1,z1,p1,ta,tc,e1,g1,q1,_,hok⟩:=V4.at ⟨cs,hs.le hle,hd.le hle,by omega⟩ hdd;cases e1;rw[show((m-1:Nat):Int)=(m:Int)-1 by omega] at q1;have hl2:(((c.drop m).map (·.original)).reverse).length≤256:=by simp;omega
  repeat' (first|refine zp rfl ?_|refine zn ?_|refine A2 rfl ?_|refine zs [4,5,6] rfl ?_|refine A6 (A3a rfl rfl (by omega)) rfl ?_|refine A6 (H3 rfl rfl (by omega)) rfl ?_|refine zx rfl rfl rfl (by omega) rfl ?_|refine zm g1 (q1 3 _ rfl) rfl rfl rfl ?_|refine A8 A1 1 rfl rfl rfl (fun bz i hi hbs=>?_)|(refine P2 A1 (sz:=1) (bytes:=16) rfl rfl rfl hO (hbs.rd _) ⟨_,rfl,rfl⟩ ⟨_,rfl,rfl,rfl⟩ (by omega) (F4 rfl) (by omega) (by omega) ?_;intro a3 c3 O' hO'))
  refine⟨m-1,by omega,m-1,a3,c3,O',rfl,by omega,?_,?_,hle.trans hi,rfl⟩
  ·rw[e0,E9h,show((m-1:Nat):Int)=(m:Int)-1 by omega];rfl
  ·rw[e0,E9h,C0w];exact hO'
 ·obtain rfl:m=0:=by omega
  repeat' (first|refine zp rfl ?_|refine zn ?_|refine A0 rfl ?_|refine zs [4,7] rfl ?_|refine A6 (A1p rfl rfl (by omega)) rfl ?_)
  rw[List.drop_zero] at hO;exact⟨O,[_],hO,rfl⟩
theorem E8c(v:Value)(ds:List Dev)(n:Int)(i:Imm)(L:SH)(hv:V4 i v ds):
 E6 E9c 64 [.agg #[v],.int .i64 n] i L fun r i' L'=>Sl i' r 1 (Z5 ds n).length (strs (Z5 ds n))∧L'=L:=A9n (C9w v ds n i L hv)
theorem E0x(va vb:Value)(a b:List ByteArray)(i:Imm)(L:SH)(ha:Sl i va 1 a.length (strs a))(hb:Sl i vb 1 b.length (strs b))(hna:a.length≤1000)(hnb:b.length≤1000):
 E6 E9c 65 [va,vb] i L fun r i' L'=>(∃c,r=.int .i64 c∧∀x,b=a++[x]→c<0)∧i'=i∧L'=L:=by
 obtain⟨aa,ac,rfl,_⟩:=id ha;obtain⟨ba,bc,rfl,_⟩:=id hb;refine A5 Tryz.func65 rfl rfl (by simp) rfl ?_;repeat' (first|refine zp rfl ?_|refine zn ?_|refine zs [0,1] rfl ?_)
 refine B1 [0,1,5] (fun m vs i' L'=>∃k:Nat,m=a.length-k∧k≤a.length∧k≤b.length∧vs=[.slice aa a.length ac,.slice ba b.length bc,.int .i64 (k:Int)]∧i'=i∧L'=L) _ ⟨0,rfl,E9k _,E9k _,rfl,rfl,rfl⟩ ?_;rintro m g vs i' L' hi ⟨k,rfl,hk,hk2,rfl,rfl,rfl⟩;by_cases h1:k<a.length
 ·by_cases h2:k<b.length
  ·obtain⟨x,hx⟩:=zi a k h1;obtain⟨y,hy⟩:=zi b k h2;obtain⟨b1,o1,c1,t1,z1,p1,e1,g1,q1⟩:=ha.at h1 (by omega);obtain⟨b2,o2,c2,t2,z2,p2,e2,g2,q2⟩:=hb.at h2 (by omega);cases e1;cases e2;have q1:=q1 0 (by omega);have q2:=q2 0 (by omega);rw[A0g,hx] at q1;rw[A0g,hy] at q2;repeat' (first|refine zp rfl ?_|refine zq rfl ?_|refine zn ?_|refine A2 rfl ?_|refine A0 rfl ?_|refine zs [2,3] rfl ?_|refine C8 (id:=4) J9 (by kernel_rfl) ?_|refine C8 (id:=5) J9 (by kernel_rfl) ?_|refine zt rfl rfl (by omega) rfl ?_|refine zd rfl rfl (by omega) rfl ?_|refine D3 (A9 A1 rfl rfl rfl (by omega)) rfl ?_|refine F0 (B2 A1 rfl (Has.imm g1) rfl q1) rfl ?_|refine F0 (B2 A1 rfl (Has.imm g2) rfl q2) rfl ?_|refine E0a rfl rfl rfl (fun h=>?_) (fun h=>?_)|refine D7j ((A0z fun w=>Tryz.strings_Compare x y w).mono fun _ _ _ _ h=>⟨h.1,h.2.2⟩) rfl (by kernel_rfl) rfl ?_)
   all_goals first
    |exact⟨a.length-(k+1),by omega,k+1,rfl,by omega,by omega,rfl,rfl,rfl⟩
    |skip
   refine⟨⟨_,rfl,fun z hz=>absurd ?_ h⟩,rfl,rfl⟩;rw[hz,E9t h1,hx] at hy;cases hy;rfl
  ·repeat' (first|refine zp rfl ?_|refine zn ?_|refine A2 rfl ?_|refine A0 rfl ?_|refine zs [2,6,8,9] rfl ?_|refine zt rfl rfl (by omega) rfl ?_|refine zf rfl rfl (by omega) rfl ?_|refine A6 (J4 rfl rfl (by omega)) rfl ?_)
   all_goals exact⟨⟨_,rfl,fun z hz=>by have:=congrArg List.length hz;simp at this;omega⟩,rfl,rfl⟩
 ·repeat' (first|refine zp rfl ?_|refine zn ?_|refine A2 rfl ?_|refine A0 rfl ?_|refine zs [2,6,7,8,10] rfl ?_|refine zf rfl rfl (by omega) rfl ?_|refine I1 rfl rfl rfl (fun h=>?_) (fun h=>?_)|refine A6 (I0 rfl rfl (by omega)) rfl ?_)
  all_goals first
   |exact⟨⟨_,rfl,fun z hz=>by have:=congrArg List.length hz;simp at this;omega⟩,rfl,rfl⟩
theorem E1d(s p:ByteArray)(i:Imm)(L:SH)(hs:s.size≤1000):
 E6 E9c 121 [.string s,.string p] i L fun v i' L'=>YN v i i' L L':=by
 refine A5 Tryz.func121 rfl rfl (by simp) rfl ?_;repeat' (first|refine zp rfl ?_|refine zn ?_|refine A3 ?_|refine A6 (M2 rfl rfl (by have hz:(F0y #[47]).size=1:=rfl;omega)) rfl ?_|(refine A7 (X4 _ _ _ _) rfl (by kernel_rfl) rfl ?_;rintro _ i L-⟨b,rfl,_,rfl,rfl⟩))
 exact⟨_,rfl,rfl,rfl⟩
set_option maxRecDepth 100000 in
theorem Clash_t(l1 l2:List Value)(d1 d2:Dev)(i:Imm)(L:SH)(hg:Glb i)(h1:R6 i l1 d1)(h2:R6 i l2 d2):
 E6 E9c 66 [.agg (E9d l1),.agg (E9d l2)] i L fun v i' L'=>(∃b,v=.bool b)∧L'=L:=by
 refine E6.drop ?_;obtain⟨aa,ac,rfl,ha1,ha2⟩:=h1;obtain⟨ba,bc,rfl,hb1,hb2⟩:=h2;refine A5 Tryz.func66 rfl rfl (by simp) rfl ?_;repeat' (first|refine zp rfl ?_|refine zn ?_|refine A2 rfl ?_|refine A0 rfl ?_|refine A3 ?_|refine E4 rfl rfl (fun b2=>?_)|refine zo 1 rfl rfl rfl rfl ?_|refine E1 rfl rfl rfl (fun h=>?_) (fun h=>?_)|refine zo 0 rfl rfl rfl rfl ?_|refine I9 rfl rfl rfl (fun h=>?_) (fun h=>?_)|((refine A7 (D2q (W4 d1 (.slice aa d1.attrs.length ac)) d1 _ _ hg ⟨aa,ac,rfl,ha1,ha2⟩) rfl (by kernel_rfl) rfl ?_);rintro _ i L-⟨⟨nd,hasb,rfl,hnd⟩,rfl,rfl⟩;cases hasb)|((refine A7 (D2q (W4 d2 (.slice ba d2.attrs.length bc)) d2 _ _ hg ⟨ba,bc,rfl,hb1,hb2⟩) rfl (by kernel_rfl) rfl ?_);rintro _ i L-⟨⟨nd,hasb,rfl,hnd⟩,rfl,rfl⟩;cases hasb)|refine C9 _ (E1d _ _ _ _ (by omega)) rfl (by kernel_rfl) rfl ?_ ?_<;>rintro i L-⟨rfl,rfl⟩)
 all_goals exact⟨[_,_],⟨_,rfl⟩,rfl⟩
theorem D9h{ds:List Dev}{n:Int}(h:A1g ds n<0)(k:Nat)(e:Dev)(he:ds[k]?=some e):e.index≠n:=by
 unfold A1g at h;cases hf:Clo.find (dvs ds) n with
 |some p=>rw[hf] at h;simp at h;omega
 |none=>exact Clo.find_none hf k ⟨e.index,e.parent⟩ (by rw[A3m,he];rfl)
def A3x(i:Imm)(v:Value)(ds:List Dev):Prop:=V4 i v ds∧A9x v
theorem A3x.le{i i':Imm}{v:Value}{ds:List Dev}(h:A3x i v ds)(hi:i.le i'):A3x i' v ds:=⟨h.1.le hi,h.2⟩
theorem DVc.take{i:Imm}{cs:List Value}{ds:List Dev}{m:Nat}(h:DVc i cs ds)(h2:m≤ds.length):DVc i (cs.take (m*10)) (ds.take m):=by
 have:=h.sub (E9k m) h2
 simpa using this
set_option maxRecDepth 100000 in
theorem E8e(v:Value)(ds:List Dev)(l:List Value)(d:Dev)(B:Int)(i:Imm)(L:SH)(hg:Glb i)(hv:A3x i v ds)(hT:Tr B ds)(hd:R6 i l d)(hdB:d.index≤B)(hpar:d.parent=0∨∃(j:Nat)(e:Dev),ds[j]?=some e∧e.index=d.parent):
 E6 E9c 35 [.agg #[v],.agg (E9d l)] i L fun r i' L'=>(∃(ao':Option Addr)(n' c':Nat)(e:Int),r=.tuple #[.agg #[.slice ao' n' c'],.int .i64 e]∧(e=0→∃ds',A3x i' (.slice ao' n' c') ds'∧Tr B ds'))∧L'=L:=by
 have hix:=hd.choose_spec.choose_spec.2.2.ix;obtain⟨da,dc,rfl,hda,hdk⟩:=hd;have hlen:ds.length≤256:=by obtain⟨_,_,_,h⟩:=id hv.1;exact h
 obtain⟨⟨_,⟨ao,cap,rfl,_⟩,_⟩,_⟩:=id hv;refine E6.state (K:=fun r i' L'=>(∃(ao':Option Addr)(n' c':Nat)(e:Int)(G:SH),e≠0∧r=.tuple #[.agg #[.slice ao' n' c'],.int .i64 e]∧L'=G++L)∨∃(ao':Option Addr)(n' c':Nat)(cs:List Value)(ds':List Dev)(O:SH)(x y:Nat×Obj),r=.tuple #[.agg #[.slice ao' n' c'],.int .i64 0]∧J2 56 (.slice ao' n' c') 10 ds'.length cs O∧DVc i' cs ds'∧ds'.length≤256∧Tr B ds'∧L'=x::y::(O++L)) ?_ ?_;rotate_left
 ·rintro r i' L' w _ hst (⟨ao',n',c',e,G,he,rfl,rfl⟩|⟨ao',n',c',cs,ds',O,x,y,rfl,hO,hc,hn,hT',rfl⟩)
  ·exact⟨i',L,Imm.le.refl i',hst.dropL,⟨ao',n',c',e,rfl,fun h=>absurd h he⟩,rfl⟩
  ·obtain⟨i2,h1,h2,h3⟩:=hO.freeze hst.drop.drop;exact⟨i2,L,h1,h2,⟨ao',n',c',0,rfl,fun _=>⟨ds',⟨⟨cs,h3,hc.le h1,hn⟩,R3 hO⟩,hT'⟩⟩,rfl⟩
 refine A3h A1 Tryz.func35 rfl rfl (by simp) rfl ?_;repeat' (first|refine zn ?_|refine A2 rfl ?_|refine A0 rfl ?_|(refine zr 0 ?_;(refine E4 rfl rfl (fun b2=>?_);refine M3 (fun i hi g2=>?_);replace hg:=hg.le hi;replace hv:=hv.le hi;replace hda:=hda.le hi);(all_goals(refine E4 rfl rfl (fun b3=>?_);refine M3 (fun i hi g3=>?_);replace hg:=hg.le hi;replace hv:=hv.le hi;replace hda:=hda.le hi;replace g2:=hi.blk _ _ g2));(all_goals refine C1 A1 rfl rfl (fun b4=>?_));(all_goals refine zp rfl ?_);(all_goals refine zn ?_))|(refine zr 1 ?_;refine D4 (B0 A1 rfl (Has.imm g3) rfl) rfl ?_;(all_goals(refine A7 (D4u (W4 d (.slice da d.attrs.length dc)) d _ _ hg ⟨da,dc,rfl,hda,hdk⟩) rfl (by kernel_rfl) rfl ?_;rintro _ i L hi ⟨⟨e,rfl⟩,rfl⟩;replace hg:=hg.le hi;replace hv:=hv.le hi;replace hda:=hda.le hi;replace g2:=hi.blk _ _ g2;replace g3:=hi.blk _ _ g3));(all_goals(refine J1 rfl rfl rfl (fun h=>?_) (fun h=>?_)));(all_goals refine zn ?_))|(refine zr 2 ?_;refine zp rfl ?_;(refine zw 0 rfl rfl rfl rfl ?_);refine zp rfl ?_;refine zn ?_)|(refine zr 3 ?_;refine zp rfl ?_;refine D4 (B0 A1 rfl (Has.imm g2) rfl) rfl ?_;(all_goals refine zp rfl ?_);(all_goals refine D4 (B0 A1 rfl (Has.imm g3) rfl) rfl ?_);(all_goals(refine A7 (B2u _ ds _ _ _ hv.1) rfl (by kernel_rfl) rfl ?_;rintro _ i L-⟨rfl,rfl,rfl⟩));(all_goals(refine Y8 rfl rfl rfl (fun h=>?_) (fun h=>?_)));(all_goals refine zn ?_))|(refine zr 4 ?_;refine zp rfl ?_;(refine zw 0 rfl rfl rfl rfl ?_);refine zp rfl ?_;refine zn ?_)|(refine zr 5 ?_;refine zp rfl ?_;refine D4 (B0 A1 rfl (Has.imm g3) rfl) rfl ?_;(all_goals(refine J1 rfl rfl rfl (fun h=>?_) (fun h=>?_)));(all_goals refine zp rfl ?_);(all_goals(first|refine zp rfl ?_|refine zp rfl ?_));(all_goals(first|refine D4 (B0 A1 rfl (Has.imm g2) rfl) rfl ?_|refine zp rfl ?_));(all_goals(first|refine zp rfl ?_|refine zp rfl ?_));(all_goals(first|refine D4 (B0 A1 rfl (Has.imm g3) rfl) rfl ?_|refine zp rfl ?_));(all_goals(first|(refine A7 (B2u _ ds _ _ _ hv.1) rfl (by kernel_rfl) rfl ?_;rintro _ i L-⟨rfl,rfl,rfl⟩)|refine zp rfl ?_));(all_goals(first|refine I1 rfl rfl rfl (fun h=>?_) (fun h=>?_)|refine zp rfl ?_));(all_goals refine zp rfl ?_);(all_goals refine zn ?_))|(refine zr 6 ?_;refine zp rfl ?_;(refine zw 0 rfl rfl rfl rfl ?_);refine zp rfl ?_;refine zn ?_)|(refine zr 7 ?_;refine zp rfl ?_;refine D4 (B0 A1 rfl (Has.imm g2) rfl) rfl ?_;(all_goals(refine zp rfl ?_));(all_goals(refine Y8 rfl rfl rfl (fun h=>?_) (fun h=>?_)));(all_goals refine zn ?_))|(refine zr 8 ?_;refine zp rfl ?_;(refine zw 0 rfl rfl rfl rfl ?_);refine zp rfl ?_;refine zn ?_))
 all_goals first
  |exact⟨_,_,_,_,_,_,rfl,Has.own 0 rfl,rfl,.inl ⟨_,_,_,_,[_],by decide,rfl,rfl⟩⟩
  |skip
 all_goals
  have hnew:=fun(k:Nat)(e:Dev)(he:ds[k]?=some e)=>D9h (n:=d.index) (by omega) k e he
  have hol:=C8p ds d.parent;refine H8 J9 [0,1,2,3,4,5,6,7] [8] [3,7] (fun _=>True) (stE fun L'=>L'=(b4,E9n [F0h none 0 0].toArray 46 (0,0))::L) (by kernel_rfl) (by decide) rfl trivial (G7 _) rfl ?_;refine D7 (fun i' hi L' _=>B0 A1 rfl (Has.imm (hi.blk _ _ g2)) rfl) rfl rfl rfl rfl rfl rfl ?_;refine zg rfl rfl rfl ?_;refine D7 (fun i' hi L' _=>B0 A1 rfl (Has.imm (hi.blk _ _ g3)) rfl) rfl rfl rfl rfl rfl rfl ?_
  refine G0 (fun _ _=>True) ⟨[42],fun _ vs L'=>∃(a2:Option Addr)(c2:Nat)(O:SH),vs=[.slice a2 (Z5 ds d.parent).length c2]∧J2 9 (.slice a2 (Z5 ds d.parent).length c2) 1 (Z5 ds d.parent).length (strs (Z5 ds d.parent)) O∧L'=O++((b4,E9n [F0h none 0 0].toArray 46 (0,0))::L)⟩ (fun _ _ _ _ _=>trivial) (fun _ _ _ _ _ h=>h) rfl rfl rfl rfl rfl rfl (fun i' hi L' _ vs _ hm _=>⟨rfl,by
   have hm:L'=(b4,E9n [F0h none 0 0].toArray 46 (0,0))::L:=hm;subst hm;refine D2 (by kernel_rfl) rfl (C9w _ ds d.parent i' _ (hv.1.le hi)) ?_;rintro r i3 L3 _ ⟨O,hO,rfl⟩;obtain⟨a2,c2,rfl⟩:=J2.shape hO;exact⟨trivial,trivial,a2,c2,O,rfl,hO,rfl⟩⟩) ?_
  refine zg rfl rfl rfl ?_;refine D7 (fun i' hi L' _=>B0 A1 rfl (Has.imm (hi.blk _ _ g3)) rfl) rfl rfl rfl rfl rfl rfl ?_;refine S8 A1 1 rfl rfl rfl rfl rfl rfl ?_;refine G0 (fun _ _=>True) ⟨[46],fun _ vs L'=>∃(a2:Option Addr)(c2:Nat)(O:SH),vs=[.slice a2 (Z5 ds d.parent++[d.original]).length c2]∧J2 9 (.slice a2 (Z5 ds d.parent++[d.original]).length c2) 1 (Z5 ds d.parent++[d.original]).length (strs (Z5 ds d.parent++[d.original])) O∧L'=O++((b4,E9n [F0h none 0 0].toArray 46 (0,0))::L)⟩ (fun _ _ _ _ _=>trivial) (fun _ _ _ _ _ h=>h) rfl rfl rfl rfl rfl rfl (fun i' hi L' _ vs _ hm=>?_) ?_
  ·obtain⟨a2,c2,O,rfl,hO,rfl⟩:=hm;rintro w42-w45 ⟨b,rfl,hbs⟩ hw;have hwv:w42=.slice a2 (Z5 ds d.parent).length c2:=hw 0 _ _ rfl rfl rfl;subst hwv;refine⟨rfl,P3.mono (A1q A1 (sz:=1) (bytes:=16) (m:=1) rfl rfl hO (hbs.rd _) ⟨_,rfl,rfl⟩ ⟨_,rfl,rfl,rfl⟩ (by omega) (F4 rfl) (by omega) (by omega)) ?_⟩;rintro v' i3 L3 _ ⟨_,a3,c3,O',rfl,h1,rfl⟩;exact⟨trivial,trivial,a3,c3,O',by rw[E9h];rfl,by rw[E9h,C0w];exact h1,rfl⟩
  refine I8 rfl rfl (fun i2 L2 vs hi2 _ _ hm=>?_);obtain⟨a2,c2,O,rfl,hO,rfl⟩:=hm;rintro w46-w45-w42-hw;have hwv:w46=.slice a2 (Z5 ds d.parent++[d.original]).length c2:=hw 0 _ _ rfl rfl;subst hwv;refine A2g (fun w hw=>?_);obtain⟨i3,hi3,hst3,hs3⟩:=hO.freeze hw;refine⟨i3,_,hi3,hst3,?_⟩;refine zp rfl ?_;refine zn ?_;have hi23:=hi2.trans hi3;replace hg:=hg.le hi23;replace hv:=hv.le hi23;replace hda:=hda.le hi23;replace g2:=hi23.blk _ _ g2;replace g3:=hi23.blk _ _ g3;clear hst3 hw hO hi2 hi3;have hol2:(Z5 ds d.parent++[d.original]).length≤257:=by simp;omega
  repeat' (first|refine zp rfl ?_|refine zn ?_|refine A2 rfl ?_|refine A0 rfl ?_|refine zs [10,11,12,13] rfl ?_|refine H0 rfl rfl rfl (fun h=>?_) (fun h=>?_)|refine zw 0 rfl rfl rfl rfl ?_)
  all_goals first
   |exact⟨_,_,_,_,_,_,rfl,Has.own 0 rfl,rfl,.inl ⟨_,_,_,_,[_],by decide,rfl,rfl⟩⟩
   |skip
  refine B1 [2,3,4,6,7,8] (fun m vs i' L'=>∃(k at_:Nat),m=ds.length-k∧k≤ds.length∧at_≤k∧(∀(j:Nat)(e:Dev),j<k→ds[j]?=some e→e.index=d.parent→j<at_)∧vs=[.pointer (some ⟨b2,0,none⟩),.pointer (some ⟨b3,0,none⟩),.pointer (some ⟨b4,0,none⟩),.slice a2 (Z5 ds d.parent++[d.original]).length c2,.int .i64 (at_:Int),.int .i64 (k:Int)]∧i3.le i'∧L'=(b4,E9n [F0h none 0 0].toArray 46 (0,0))::L) _ ⟨0,0,rfl,E9k _,E9q _,fun j e h=>absurd h (by omega),rfl,Imm.le.refl _,rfl⟩ ?_;rintro m g vs i1 _ hi1 ⟨k,at_,rfl,hk,hak,hpre,rfl,hle,rfl⟩;replace hg:=hg.le hle;replace hv:=hv.le hle;replace hda:=hda.le hle;replace hs3:=hs3.le hle;replace g2:=hle.blk _ _ g2;replace g3:=hle.blk _ _ g3;by_cases hlt:k<ds.length
  ·obtain⟨e,he⟩:=zi ds k hlt;obtain⟨b1,o1,c1,t1,z1,p1,ta,tc,e1,g1,q1,hea,heo⟩:=hv.1.at he;cases e1;repeat' (first|refine zp rfl ?_|refine zn ?_|refine A2 rfl ?_|refine zr 14 ?_|refine D4 (B0 A1 rfl (Has.imm g2) rfl) rfl ?_|refine zt rfl rfl (by omega) rfl ?_)
   refine F9 J9 [0,1,2,3,4,5,6,7,8,9] [10] [] (fun _=>True) (fun L'=>L'=(b4,E9n [F0h none 0 0].toArray 46 (0,0))::L) (by kernel_rfl) (by decide) rfl trivial rfl ?_;refine D7 (fun i' hi L' _=>B0 A1 rfl (Has.imm (hi.blk _ _ g2)) rfl) rfl rfl rfl rfl rfl rfl ?_;refine zg rfl rfl rfl ?_;refine D7 (fun i' hi L' _=>B0 A1 rfl (Has.imm (hi.blk _ _ g2)) rfl) rfl rfl rfl rfl rfl rfl ?_;refine zg rfl rfl rfl ?_;refine E7 (A9 A1 rfl rfl rfl (by omega)) rfl rfl rfl rfl rfl rfl ?_;refine zg rfl rfl rfl ?_;refine D7 (fun i' hi L' _=>B2 A1 rfl (Has.imm (hi.blk _ _ g1)) rfl (q1 0 _ rfl)) rfl rfl rfl rfl rfl rfl ?_;refine C4 (fun i v=>Sl i v 1 (Z5 ds e.index).length (strs (Z5 ds e.index))) (fun _ _ hi _ h=>h.le hi) rfl rfl rfl rfl (fun i' hi L' _=>⟨rfl,D2 (by kernel_rfl) rfl (E8c _ ds e.index i' L' (hv.1.le hi)) (fun _ _ _ _ ⟨h,h'⟩=>⟨h',h⟩)⟩) ?_;refine zg rfl rfl rfl ?_
   refine C4 (fun _ v=>∃c,v=.int .i64 c∧∀x,(Z5 ds d.parent++[d.original])=Z5 ds e.index++[x]→c<0) (fun _ _ _ _ h=>h) rfl rfl rfl rfl (fun i' hi L' _=>by
    rintro w hw
    have:=C8p ds e.index
    exact⟨rfl,D2 (by kernel_rfl) rfl (E0x w _ (Z5 ds e.index) (Z5 ds d.parent++[d.original]) i' L' hw (hs3.le hi) (by omega) (by omega)) (fun _ _ _ _ ⟨h1,_,h3⟩=>⟨h3,h1⟩)⟩) ?_
   refine G1 rfl rfl (fun i2 L2 hi2 _ hA=>?_);subst hA;rintro w ⟨c,rfl,hc⟩ w2-;refine zp rfl ?_;refine zn ?_;replace hg:=hg.le hi2;replace hv:=hv.le hi2;replace hda:=hda.le hi2;replace hea:=hea.le hi2;replace g1:=hi2.blk _ _ g1;replace g2:=hi2.blk _ _ g2;replace g3:=hi2.blk _ _ g3;by_cases hc0:c=0
   ·subst hc0;repeat' (first|refine zq rfl ?_|refine zp rfl ?_|refine zn ?_|refine A2 rfl ?_|refine C8 J9 (by kernel_rfl) ?_|refine A3 ?_|refine D3 (G9 rfl rfl (by omega)) rfl ?_|refine zw 0 rfl rfl rfl rfl ?_)
    exact⟨_,_,_,_,_,_,rfl,Has.own 0 rfl,rfl,.inl ⟨_,_,_,_,[_],by decide,rfl,rfl⟩⟩
   ·repeat' (first|refine zn ?_|fail)
    refine F9 J9 [0,1,2,3,4,5,6,7,8,9] [10] [] (fun _=>True) (fun L'=>L'=(b4,E9n [F0h none 0 0].toArray 46 (0,0))::L) (by kernel_rfl) (by decide) rfl trivial rfl ?_;refine zg rfl rfl rfl ?_;refine E7 (H5 rfl rfl (by omega)) rfl rfl rfl rfl rfl rfl ?_;all_goals refine zg rfl rfl rfl ?_
    (all_goals(refine zg rfl rfl rfl ?_))
    refine D7 (fun i' hi L' _=>B0 A1 rfl (Has.imm (hi.blk _ _ g2)) rfl) rfl rfl rfl rfl rfl rfl ?_;refine zg rfl rfl rfl ?_;refine E7 (A9 A1 rfl rfl rfl (by omega)) rfl rfl rfl rfl rfl rfl ?_;refine D7 (fun i' hi L' _=>D9 (l:=W4 e (.slice ta e.attrs.length tc)) A1 rfl (Has.imm (hi.blk _ _ g1)) rfl rfl rfl q1) rfl rfl rfl rfl rfl rfl ?_;refine D7 (fun i' hi L' _=>B0 A1 rfl (Has.imm (hi.blk _ _ g3)) rfl) rfl rfl rfl rfl rfl rfl ?_;refine C4 (fun _ v=>∃b,v=.bool b) (fun _ _ _ _ h=>h) rfl rfl rfl rfl (fun i' hi L' _=>⟨rfl,D2 (by kernel_rfl) rfl (Clash_t (W4 e (.slice ta e.attrs.length tc)) (W4 d (.slice da d.attrs.length dc)) e d i' L' (hg.le hi) ⟨ta,tc,rfl,hea.le hi,heo⟩ ⟨da,dc,rfl,hda.le hi,hdk⟩) (fun _ _ _ _ ⟨h,h'⟩=>⟨h',h⟩)⟩) ?_;refine G1 rfl rfl (fun i4 L4 hi4 _ hA=>?_);subst hA;rintro w ⟨b,rfl⟩;refine zp rfl ?_;refine zn ?_;cases b
    ·repeat' (first|refine zp rfl ?_|refine zn ?_|refine A2 rfl ?_|refine A0 rfl ?_|refine zs [15,19,20] rfl ?_|refine zd rfl rfl (by omega) rfl ?_|refine I1 rfl rfl rfl (fun h=>?_) (fun h=>?_))
     ·exact⟨ds.length-(k+1),by omega,k+1,k+1,rfl,hlt,E9q _,fun j e' hj _ _=>hj,rfl,(hle.trans hi2).trans hi4,rfl⟩
     ·refine⟨ds.length-(k+1),by omega,k+1,at_,rfl,hlt,by omega,fun j e' hj he' h2=>?_,rfl,(hle.trans hi2).trans hi4,rfl⟩;rcases F0m.1 hj with hj|rfl
      ·exact hpre j e' hj he' h2
      ·rw[he] at he';cases he'
       have:=hc d.original (by rw[h2])
       omega
    ·repeat' (first|refine zp rfl ?_|refine zn ?_|refine A2 rfl ?_|refine A3 ?_|refine zw 0 rfl rfl rfl rfl ?_)
     exact⟨_,_,_,_,_,_,rfl,Has.own 0 rfl,rfl,.inl ⟨_,_,_,_,[_],by decide,rfl,rfl⟩⟩
  ·obtain rfl:k=ds.length:=by omega
   obtain⟨cs,hs,hcv,_⟩:=id hv.1;obtain⟨a9,n9,c9,e9,hcl,haddr⟩:=id hv.2;cases e9;have hnl:ds.length<256:=by omega
   have e2:(ds.take at_++d::ds.drop at_).length=0+at_+1+(ds.length-at_):=by simp;omega
   have hTi:Tr B (ds.take at_++d::ds.drop at_):=hT.ins hak ⟨hix.1,hdB⟩ hnew hpar (fun k e he h2=>hpre k e (E9e.1 he).1 he h2);repeat' (first|refine zp rfl ?_|refine zn ?_|refine A0 rfl ?_|refine zs [14,21] rfl ?_|refine D4 (B0 A1 rfl (Has.imm g2) rfl) rfl ?_|refine zf rfl rfl (by omega) rfl ?_|refine C1 A1 rfl rfl (fun b10=>?_))
   refine H8 J9 [0,1,2,3,4,5,6,7,8,9,10,11,12,13,14] [15,16] [6,9,14] (fun L'=>∃O:SH,L'=(b10,E9n [F0h none 0 0].toArray 46 (0,0))::(b4,E9n [F0h none 0 0].toArray 46 (0,0))::(O++L)) (stE fun L'=>L'=(b10,E9n [F0h none 0 0].toArray 46 (0,0))::(b4,E9n [F0h none 0 0].toArray 46 (0,0))::L) (by kernel_rfl) (by decide) rfl ⟨[],rfl⟩ (G7 _) rfl ?_;refine zg rfl rfl rfl ?_;refine D7 (fun i' hi L' hL=>by obtain⟨O,rfl⟩:=hL;exact B0 A1 rfl (Has.own 0 rfl) rfl) rfl rfl rfl rfl rfl rfl ?_;refine zg rfl rfl rfl ?_;refine D7 (fun i' hi L' _=>B0 A1 rfl (Has.imm (hi.blk _ _ g2)) rfl) rfl rfl rfl rfl rfl rfl ?_;refine zg rfl rfl rfl ?_;refine E7 (S2 A1 rfl rfl rfl (haddr.elim (fun h=>.inl h.1) (fun⟨b,h⟩=>.inr ⟨b,0,h⟩)) ⟨by omega,by omega⟩) rfl rfl rfl rfl rfl rfl ?_;have htk:=Y7 (k:=at_) hs (by omega);have hdr:=A0y (k:=at_) hs ⟨_,_,_,rfl,hcl,haddr⟩ (by omega)
   refine G0 (fun _ _=>True) ⟨[90],fun _ vs L'=>∃(a9:Option Addr)(c9:Nat)(O:SH),vs=[.slice a9 (0+at_) c9]∧J2 56 (.slice a9 (0+at_) c9) 10 (0+at_) ([]++cs.take (at_*10)) O∧L'=(b10,E9n [F0h none 0 0].toArray 46 (0,0))::(b4,E9n [F0h none 0 0].toArray 46 (0,0))::(O++L)⟩ (fun _ _ _ _ _=>trivial) (fun _ _ _ _ _ h=>h) rfl rfl rfl rfl rfl rfl (fun i' hi L' _ vs _ hm _=>⟨rfl,by
    have hm:L'=_:=hm;subst hm;refine P3.mono (D8 [(b10,E9n [F0h none 0 0].toArray 46 (0,0)),(b4,E9n [F0h none 0 0].toArray 46 (0,0))] A1 (sz:=10) (bytes:=136) (m:=at_) (k:=0) (O:=[]) rfl rfl (J2.nil 56 10) ((htk.le hi).rd _) ⟨_,rfl,rfl⟩ ⟨_,rfl,rfl,rfl⟩ (by omega) (hcv.take (by omega)).one (by omega) (by omega)) ?_;rintro v' i4 L4 _ ⟨O',⟨a9,c9,rfl,h1⟩,rfl⟩;exact⟨⟨O',rfl⟩,trivial,a9,c9,O',rfl,h1,rfl⟩⟩) ?_
   refine D7 (fun i' hi L' _=>B0 A1 rfl (Has.imm (hi.blk _ _ g3)) rfl) rfl rfl rfl rfl rfl rfl ?_;refine S8 A1 10 (e:=56) (cs:=W4 d (.slice da d.attrs.length dc)) (J6 rfl rfl rfl rfl (by decide) (by decide) rfl) rfl rfl rfl rfl rfl ?_;refine G0 (fun _ _=>True) ⟨[93],fun _ vs L'=>∃(a9:Option Addr)(c9:Nat)(O:SH),vs=[.slice a9 (0+at_+1) c9]∧J2 56 (.slice a9 (0+at_+1) c9) 10 (0+at_+1) (([]++cs.take (at_*10))++W4 d (.slice da d.attrs.length dc)) O∧L'=(b10,E9n [F0h none 0 0].toArray 46 (0,0))::(b4,E9n [F0h none 0 0].toArray 46 (0,0))::(O++L)⟩ (fun _ _ _ _ _=>trivial) (fun _ _ _ _ _ h=>h) rfl rfl rfl rfl rfl rfl (fun i' hi L' _ vs _ hm=>?_) ?_
   ·obtain⟨a9,c9,O,rfl,hO,rfl⟩:=hm;rintro w90-w92 ⟨b,rfl,hbs⟩ hw;have hwv:=hw 0 _ _ rfl rfl rfl;have hwv:w90=.slice a9 (0+at_) c9:=hwv;subst hwv;refine⟨rfl,P3.mono (D8 [(b10,E9n [F0h none 0 0].toArray 46 (0,0)),(b4,E9n [F0h none 0 0].toArray 46 (0,0))] A1 (sz:=10) (bytes:=136) (m:=1) rfl rfl hO (hbs.rd _) ⟨_,rfl,rfl⟩ ⟨_,rfl,rfl,rfl⟩ (by omega) (B7w _ _ _ _) (by omega) (by omega)) ?_⟩;rintro v' i4 L4 _ ⟨O',⟨a9,c9,rfl,h1⟩,rfl⟩;exact⟨⟨O',rfl⟩,trivial,a9,c9,O',rfl,h1,rfl⟩
   refine zg rfl rfl rfl ?_;refine D7 (fun i' hi L' _=>B0 A1 rfl (Has.imm (hi.blk _ _ g2)) rfl) rfl rfl rfl rfl rfl rfl ?_;refine zg rfl rfl rfl ?_;refine E7 (A3e (j:=at_) A1 rfl rfl rfl haddr (by omega)) rfl rfl rfl rfl rfl rfl ?_;refine G0 (fun _ _=>True) ⟨[98],fun _ vs L'=>∃(a9:Option Addr)(c9:Nat)(O:SH),vs=[.slice a9 ((ds.take at_++d::ds.drop at_).length) c9]∧J2 56 (.slice a9 ((ds.take at_++d::ds.drop at_).length) c9) 10 ((ds.take at_++d::ds.drop at_).length) ((([]++cs.take (at_*10))++W4 d (.slice da d.attrs.length dc))++cs.drop (at_*10)) O∧L'=(b10,E9n [F0h none 0 0].toArray 46 (0,0))::(b4,E9n [F0h none 0 0].toArray 46 (0,0))::(O++L)⟩ (fun _ _ _ _ _=>trivial) (fun _ _ _ _ _ h=>h) rfl rfl rfl rfl rfl rfl (fun i' hi L' _ vs _ hm=>?_) ?_
   ·obtain⟨a9,c9,O,rfl,hO,rfl⟩:=hm;rintro w93-hw;have hwv:=hw 0 _ _ rfl rfl rfl;have hwv:w93=.slice a9 (0+at_+1) c9:=hwv;subst hwv;refine⟨rfl,P3.mono (D8 [(b10,E9n [F0h none 0 0].toArray 46 (0,0)),(b4,E9n [F0h none 0 0].toArray 46 (0,0))] A1 (sz:=10) (bytes:=136) (m:=ds.length-at_) rfl rfl hO ((hdr.le hi).rd _) ⟨_,rfl,rfl⟩ ⟨_,rfl,rfl,rfl⟩ (by omega) (hcv.drop (by omega)).one (by omega) (by omega)) ?_⟩;rintro v' i4 L4 _ ⟨O',⟨a9,c9,rfl,h1⟩,rfl⟩;exact⟨⟨O',rfl⟩,trivial,a9,c9,O',by rw[e2];rfl,by rw[e2];exact h1,rfl⟩
   refine I8 rfl rfl (fun i2 L2 vs hi2 _ _ hm=>?_);obtain⟨a9,c9,O,rfl,hO,rfl⟩:=hm;rintro w98-w93-w92-w90-hw;have hwv:=hw 0 _ _ rfl rfl;have hwv:w98=.slice a9 (ds.take at_++d::ds.drop at_).length c9:=hwv;subst hwv;refine zp rfl ?_;refine zw 0 rfl rfl rfl rfl ?_;refine zn ?_;repeat' (first|refine zp rfl ?_|refine zn ?_|refine A3 ?_|refine zo 0 rfl rfl rfl rfl ?_|refine zw 1 rfl rfl rfl rfl ?_)
   refine⟨_,_,_,_,_,_,rfl,Has.own 1 rfl,rfl,.inr ⟨_,_,_,_,ds.take at_++d::ds.drop at_,O,_,_,rfl,hO,?_,by rw[e2];omega,hTi,rfl⟩⟩;rw[List.nil_append,show ds.take at_++d::ds.drop at_=(ds.take at_++[d])++ds.drop at_ by simp];exact(((hcv.take (by omega)).le hi2).app (DVc.single ⟨da,dc,rfl,hda.le hi2,hdk⟩)).app ((hcv.drop (by omega)).le hi2)
end Go.Proofs.YtckdkhhpjnefpaaGreatDoor
namespace Go.Proofs.YtckdkhhpjnefpaaGreatDoor
open Go Go.Eng
theorem szOk_og{og a b:ByteArray}(h:og.size≤64)(ha:a.size≤64)(hb:b.size≤64):D8c 64 [.string og,.string og,.string a,.string b]=true:=by
 rw[←Nat.ble_eq] at h ha hb;unfold D8c;simp only[A0q,List.all_cons,List.all_nil,h,ha,hb];rfl
def C0p(ds:List Dev)(y:Int):Prop:=∃(j:Nat)(e:Dev),ds[j]?=some e∧e.index=y
theorem E8k(tp:Nat)(lv:Value)(a:Int)(v:Value)(ds:List Dev)(B:Int)(i:Imm)(L:SH)(hl:I5 i lv)(ha:0≤a∧a≤500000000000)(hv:V4 i v ds)(hB:∀(k:Nat)(e:Dev),ds[k]?=some e→e.index≤B)(hB0:0≤B∧B≤900):
 E6 E9c 36 [.pointer (some ⟨tp,0,none⟩),.agg #[v]] i ((tp,B5 lv a)::L) fun r i' L'=>(∃(d:Dev)(l:List Value),r=.agg (E9d l)∧R6 i' l d∧d.index≤B+1∧(d.parent=0∨C0p ds d.parent))∧∃a',a≤a'∧a'≤a+60∧L'=(tp,B5 lv a')::L:=by
 obtain⟨cs,hs,hc,hn⟩:=id hv;obtain⟨ao,cap,rfl,_⟩:=id hs;clear hs hc
 have hix:∀(k:Nat)(e:Dev),ds[k]?=some e→1≤e.index∧e.index≤1000:=fun k e he=>by
  obtain⟨_,_,_,_,_,_,_,_,_,_,_,_,h⟩:=hv.at he;exact h.ix
 refine E6.state (K:=fun r i' L'=>∃x y,(∃(d:Dev)(l:List Value),r=.agg (E9d l)∧R6 i' l d∧d.index≤B+1∧(d.parent=0∨C0p ds d.parent))∧∃a',a≤a'∧a'≤a+60∧L'=x::y::(tp,B5 lv a')::L) ?_ ?_;rotate_left
 ·rintro r i' L' w _ hst ⟨x,y,h1,a',h2,h3,rfl⟩;exact⟨i',_,Imm.le.refl i',hst.drop.drop,h1,a',h2,h3,rfl⟩
 refine O8 A1 Tryz.func36 rfl rfl (by simp) rfl ?_;repeat' (first|refine zn ?_|refine zr 0 ?_|(refine E4 rfl rfl (fun b3=>?_);refine M3 (fun i hi g3=>?_);replace hl:=hl.le hi;replace hv:=hv.le hi)|refine C1 A1 rfl rfl (fun b4=>?_))
 refine zr 1 ?_;refine zp rfl ?_;refine A8 A1 1 rfl rfl rfl (fun bz i hi hz=>?_);replace hl:=hl.le hi;(try replace hv:=hv.le hi);(try replace g3:=hi.blk _ _ g3);(try replace hat:=hat.le hi);refine A7 (A6b 64 _ 1 _ _ _ _ _ _ _ hl hz rfl rfl rfl rfl rfl (by omega)) rfl (by kernel_rfl) rfl ?_;rintro _ _ _-⟨su,rfl,hsu,rfl,rfl⟩;refine zp rfl ?_;refine A7 (J7 _ 1 _ _ _ _ _ hl rfl (by omega) (by omega)) rfl (by kernel_rfl) rfl ?_;rintro _ _ _-⟨x,rfl,⟨hx0,hx1⟩,rfl,rfl⟩;refine zd rfl rfl (by omega) rfl ?_;refine zp rfl ?_;refine A8 A1 1 rfl rfl rfl (fun bz i hi hz=>?_);replace hl:=hl.le hi;(try replace hv:=hv.le hi);(try replace g3:=hi.blk _ _ g3);(try replace hat:=hat.le hi);refine A7 (A6b 64 _ 1 _ _ _ _ _ _ _ hl hz rfl rfl rfl rfl rfl (by omega)) rfl (by kernel_rfl) rfl ?_;rintro _ _ _-⟨dr,rfl,hdr,rfl,rfl⟩;refine zp rfl ?_;refine A8 A1 1 rfl rfl rfl (fun bz i hi hz=>?_);replace hl:=hl.le hi;(try replace hv:=hv.le hi);(try replace g3:=hi.blk _ _ g3);(try replace hat:=hat.le hi);refine A7 (A6b 64 _ 1 _ _ _ _ _ _ _ hl hz rfl rfl rfl rfl rfl (by omega)) rfl (by kernel_rfl) rfl ?_;rintro _ _ _-⟨al,rfl,hal,rfl,rfl⟩;refine zp rfl ?_;refine A7 (C7w [(b4,_)] L (fun L=>Attrs_t tp lv _ _ L hl (by omega))) rfl (by kernel_rfl) rfl ?_;rintro w i _ hi ⟨⟨l,hat,hll⟩,a1,ha1,ha2,rfl⟩;replace hl:=hl.le hi;replace hv:=hv.le hi;replace g3:=hi.blk _ _ g3;obtain⟨aa,ac,rfl,_⟩:=id hat.1;refine zp rfl ?_;refine C1 A1 rfl rfl (fun b5=>?_);refine zw 0 rfl rfl rfl rfl ?_;refine zn ?_;refine zn ?_;obtain⟨kd,hkd⟩:∃kd,kd=1+x:=⟨_,rfl⟩;rw[←hkd];refine K9 [0,3,4,5] (fun vs i' L'=>∃z:Int,1≤z∧z≤B+1∧vs=[.pointer (some ⟨tp,0,none⟩),.pointer (some ⟨b3,0,none⟩),.pointer (some ⟨b4,0,none⟩),.pointer (some ⟨b5,0,none⟩)]∧V4 i' (.slice ao ds.length cap) ds∧I5 i' lv∧S7 i' (.slice aa l.length ac) l∧i'.blk b3=some (.cells [.slice ao ds.length cap].toArray 46 (0,0))∧L'=(b5,E9n [.int .i64 z,.int .i64 0,.string E9f,.string E9f,.string su,.string dr,.string al,.int .i64 kd,.int .i64 0,.slice aa l.length ac].toArray 56 (0,0))::(b4,E9n devZ.toArray 56 (0,0))::(tp,B5 lv a1)::L) ?_ ?_
 ·repeat' (first|refine zn ?_|(refine zr 2 ?_;refine zp rfl ?_;refine zn ?_))
  refine B1 [0,3,4,5,6] (fun m vs i' L'=>∃(k:Nat)(z:Int),m=ds.length-k∧k≤ds.length∧1≤z∧z≤B+1∧vs=[.pointer (some ⟨tp,0,none⟩),.pointer (some ⟨b3,0,none⟩),.pointer (some ⟨b4,0,none⟩),.pointer (some ⟨b5,0,none⟩),.int .i64 (k:Int)]∧V4 i' (.slice ao ds.length cap) ds∧I5 i' lv∧S7 i' (.slice aa l.length ac) l∧i'.blk b3=some (.cells [.slice ao ds.length cap].toArray 46 (0,0))∧L'=(b5,E9n [.int .i64 z,.int .i64 0,.string E9f,.string E9f,.string su,.string dr,.string al,.int .i64 kd,.int .i64 0,.slice aa l.length ac].toArray 56 (0,0))::(b4,E9n devZ.toArray 56 (0,0))::(tp,B5 lv a1)::L) _ ⟨0,1,rfl,E9k _,by omega,by omega,rfl,hv,hl,hat,g3,rfl⟩ ?_;clear hv hl hat g3;rintro m g vs i _ hi ⟨k,z,rfl,hk,hz1,hz2,rfl,hv,hl,hat,g3,rfl⟩;by_cases hlt:k<ds.length
  ·obtain⟨d,hd⟩:=zi ds k hlt;obtain⟨b1,o1,c1,t1,z1,p1,ta,tc,e1,g1,q1,_,hok⟩:=hv.at hd;cases e1;have hbd:=hB k d hd;have hix:=hok.ix;repeat' (first|refine zp rfl ?_|refine zn ?_|refine A2 rfl ?_|refine zr 3 ?_|refine D4 (B0 A1 rfl (Has.imm g3) rfl) rfl ?_|refine zt rfl rfl (by omega) rfl ?_)
   refine F9 J9 [0,1,2,3,4,5,6,7,8,9,10] [11] [] (fun L'=>L'=_) (fun _=>True) (by kernel_rfl) (by decide) rfl rfl trivial ?_;refine zg rfl rfl rfl ?_;refine D7 (fun i' hi L' hL=>by subst hL;exact B0 A1 rfl (Has.own 0 rfl) rfl) rfl rfl rfl rfl rfl rfl ?_;refine zg rfl rfl rfl ?_;refine D7 (fun i' hi L' hL=>by subst hL;exact B0 A1 rfl (Has.imm (hi.blk _ _ g3)) rfl) rfl rfl rfl rfl rfl rfl ?_;refine zg rfl rfl rfl ?_;refine E7 (A9 A1 rfl rfl rfl (by omega)) rfl rfl rfl rfl rfl rfl ?_;refine zg rfl rfl rfl ?_;refine D7 (fun i' hi L' hL=>by subst hL;exact B2 A1 rfl (Has.imm (hi.blk _ _ g1)) rfl (q1 0 _ rfl)) rfl rfl rfl rfl rfl rfl ?_;refine E7 (A3n rfl rfl (by omega)) rfl rfl rfl rfl rfl rfl ?_;refine E7 (D7m rfl rfl) rfl rfl rfl rfl rfl rfl ?_;refine zg rfl rfl rfl ?_;refine G1 rfl rfl (fun i2 L9 hi2 hI9 _=>?_);subst hI9;refine zw 0 rfl rfl rfl rfl ?_;refine zn ?_;repeat' (first|refine zp rfl ?_|refine zn ?_|refine A3 ?_|refine zd rfl rfl (by omega) rfl ?_)
   exact⟨ds.length-(k+1),by omega,k+1,max z (d.index+1),rfl,hlt,by omega,by omega,rfl,hv.le hi2,hl.le hi2,hat.le hi2,hi2.blk _ _ g3,rfl⟩
  ·repeat' (first|refine zp rfl ?_|refine zn ?_|refine A0 rfl ?_|refine zr 3 ?_|refine D4 (B0 A1 rfl (Has.imm g3) rfl) rfl ?_|refine zf rfl rfl (by omega) rfl ?_)
   exact⟨z,hz1,hz2,rfl,hv,hl,hat,g3,rfl⟩
 clear hv hl hat g3;rintro g vs i _ hi ⟨z,hz1,hz2,rfl,hv,hl,hat,g3,rfl⟩;refine K9 [0,4,5] (fun vs i' L'=>∃(y a':Int),(y=0∨C0p ds y)∧a1≤a'∧a'≤a1+2∧vs=[.pointer (some ⟨tp,0,none⟩),.pointer (some ⟨b4,0,none⟩),.pointer (some ⟨b5,0,none⟩)]∧I5 i' lv∧S7 i' (.slice aa l.length ac) l∧L'=(b5,E9n [.int .i64 z,.int .i64 y,.string E9f,.string E9f,.string su,.string dr,.string al,.int .i64 kd,.int .i64 0,.slice aa l.length ac].toArray 56 (0,0))::(b4,E9n devZ.toArray 56 (0,0))::(tp,B5 lv a')::L) ?_ ?_
 ·repeat' (first|refine zp rfl ?_|refine zn ?_|refine A2 rfl ?_|refine A0 rfl ?_|refine zs [6,7] rfl ?_|refine D4 (B0 A1 rfl (Has.imm g3) rfl) rfl ?_|refine H0 rfl rfl rfl (fun h=>?_) (fun h=>?_)|(refine A7 (J7 _ 2 _ _ _ _ _ hl rfl (by omega) (by omega)) rfl (by kernel_rfl) rfl ?_;rintro _ _ _-⟨x2,rfl,⟨hy0,hy1⟩,rfl,rfl⟩))
  all_goals first
   |exact⟨0,_,.inl rfl,by omega,by omega,rfl,hl,hat,rfl⟩
   |skip
  obtain⟨cs,hs,hc,_⟩:=id hv;refine F9 J9 [0,1,2,3,4,5,6,7,8] [9] [4] (fun _=>True) (fun L'=>L'=(b5,E9n [.int .i64 z,.int .i64 0,.string E9f,.string E9f,.string su,.string dr,.string al,.int .i64 kd,.int .i64 0,.slice aa l.length ac].toArray 56 (0,0))::(b4,E9n devZ.toArray 56 (0,0))::(tp,B5 lv (a1+1))::L) (by kernel_rfl) (by decide) rfl trivial rfl ?_;refine zg rfl rfl rfl ?_;refine D7 (fun i' hi L' _=>B0 A1 rfl (Has.imm (hi.blk _ _ g3)) rfl) rfl rfl rfl rfl rfl rfl ?_;iterate 2 refine zg rfl rfl rfl ?_
  refine I6 (fun _ v=>∃x,v=.int .i64 x∧A9w ds.length x) (fun L'=>L'=(b5,E9n [.int .i64 z,.int .i64 0,.string E9f,.string E9f,.string su,.string dr,.string al,.int .i64 kd,.int .i64 0,.slice aa l.length ac].toArray 56 (0,0))::(b4,E9n devZ.toArray 56 (0,0))::(tp,B5 lv (a1+1+1))::L) (A9w.mono _) rfl rfl rfl rfl (fun i2 hi2 L' _ hA=>⟨rfl,by subst hA;exact D2 (by kernel_rfl) rfl (J7 tp 2 lv _ _ i2 _ (hl.le hi2) rfl (by omega) (by omega)) (fun _ _ _ _ ⟨x,h1,h2,h3,h4⟩=>⟨trivial,⟨x,h1,h2⟩,h4⟩)⟩) ?_
  refine C4 (PtC 10 fun l=>∃(j:Nat)(e:Dev),ds[j]?=some e∧l[0]?=some (.int .i64 e.index)) (PtC.mono _ _) rfl rfl rfl rfl (fun i2 hi2 L' _=>by
   rintro w ⟨x,rfl,hx0,hx1⟩;refine⟨rfl,A7x A1 _ rfl rfl rfl (by omega) (hs.le hi2) (by omega) ?_⟩;obtain⟨d,hd⟩:=zi ds x.toNat (by omega);obtain⟨ta,tc,e,_⟩:=hc.2 _ d hd;exact⟨_,d,hd,by show(nth 10 cs x.toNat)[0]?=_;rw[e];rfl⟩) ?_
  refine C4 (PtC 10 fun l=>∃l0:List Value,(∃(j:Nat)(e:Dev),ds[j]?=some e∧l0[0]?=some (.int .i64 e.index))∧l=l0.drop 0) (PtC.mono _ _) rfl rfl rfl rfl (fun i2 hi2 L' _=>by
   rintro w hw;exact⟨rfl,P3.mono (P3.fld (off:=0) A1 rfl rfl hw (by omega)) (fun _ _ _ _ h=>h)⟩) ?_
  refine C4 (fun _ v=>∃x,v=.int .i64 x∧C0p ds x) (fun _ _ _ _ h=>h) rfl rfl rfl rfl (fun i2 hi2 L' _=>by
   rintro w hw;exact⟨rfl,P3.mono (A7w A1 rfl rfl hw (by omega)) (fun u i3 L3 _ ⟨h1,l,h2,⟨l0,⟨j,e,h3,h4⟩,h5⟩,_⟩=>⟨h1,e.index,by rw[h5,List.drop_zero,h4] at h2;cases h2;rfl,j,e,h3,rfl⟩)⟩) ?_
  refine zg rfl rfl rfl ?_;refine G1 rfl rfl (fun i2 L2 hi2 _ hA=>?_);subst hA;rintro w ⟨y,rfl,hy⟩ w2-w3-w4-;refine zw 0 rfl rfl rfl rfl ?_;refine zn ?_;repeat' (first|refine zn ?_|fail)
  exact⟨y,_,.inr hy,by omega,by omega,rfl,hl.le hi2,hat.le hi2,rfl⟩
 clear hl hat hv g3;rintro g vs i _ hi ⟨y,a2,hy,ha3,ha4,rfl,hl,hat,rfl⟩
 have hyb:0≤y∧y≤1000:=by
  rcases hy with rfl|⟨j,e,he,rfl⟩
  ·omega
  ·have:=hix j e he;omega
 repeat' (first|refine zp rfl ?_|refine zn ?_|refine A2 rfl ?_|refine A0 rfl ?_|refine zs [9,10,11,12,13,14,15,16,17,18,19,21,22,23,24,25] rfl ?_|refine zo 0 rfl rfl rfl rfl ?_|(refine A8 A1 1 rfl rfl rfl (fun bz i hi hz=>?_);replace hl:=hl.le hi;(try replace hv:=hv.le hi);(try replace g3:=hi.blk _ _ g3);(try replace hat:=hat.le hi))|(refine A7 (A6b 64 _ 2 _ _ _ _ _ _ _ hl hz rfl rfl (by first|rfl|exact szOk_og (by assumption) (by decide) (by decide)) rfl rfl (by omega)) rfl (by kernel_rfl) rfl ?_;rintro _ _ _-⟨og,rfl,hog,rfl,rfl⟩)|refine zw 0 rfl rfl rfl rfl ?_|refine E1 rfl rfl rfl (fun h=>?_) (fun h=>?_)|refine zw 1 rfl rfl rfl rfl ?_|(refine A7 (J7 _ 2 _ _ _ _ _ hl rfl (by omega) (by omega)) rfl (by kernel_rfl) rfl ?_;rintro _ _ _-⟨x2,rfl,⟨hy0,hy1⟩,rfl,rfl⟩)|refine zd rfl rfl (by omega) rfl ?_)
 all_goals first
  |exact⟨_,_,_,_,_,_,rfl,Has.own 1 rfl,rfl,_,_,⟨⟨_,_,_,_,_,_,_,_,_,_⟩,_,rfl,⟨_,_,rfl,hat,⟨(show 1≤z∧z≤1000 by omega),hyb,(by first|assumption|exact E9w rfl),(by first|assumption|exact E9w rfl),(by first|assumption|exact E9w rfl),(by first|assumption|exact E9w rfl),(by first|assumption|exact E9w rfl)⟩⟩,hz2,hy⟩,_,by omega,by omega,rfl⟩
  |skip
 refine F9 J9 [0,1,2,3,4,5,6] [7] [4] (fun L'=>∃t,L'=(b5,E9n [.int .i64 z,.int .i64 y,.string E9f,.string og,.string (F0y #[98,108,111,99,107]),.string dr,.string al,.int .i64 kd,.int .i64 (1+x2),.slice aa l.length ac].toArray 56 (0,0))::(b4,E9n devZ.toArray 56 (0,0))::(tp,t)::L) (fun L'=>L'=(b5,E9n [.int .i64 z,.int .i64 y,.string E9f,.string og,.string (F0y #[98,108,111,99,107]),.string dr,.string al,.int .i64 kd,.int .i64 (1+x2),.slice aa l.length ac].toArray 56 (0,0))::(b4,E9n devZ.toArray 56 (0,0))::(tp,B5 lv (a2+1+1))::L) (by kernel_rfl) (by decide) rfl ⟨_,rfl⟩ rfl ?_;refine zg rfl rfl rfl ?_;refine D7 (fun i' hi L' hL=>by obtain⟨t,rfl⟩:=hL;exact B0 A1 rfl (Has.own 0 rfl) rfl) rfl rfl rfl rfl rfl rfl ?_;refine zg rfl rfl rfl ?_;refine C4 (fun i v=>∃(b:Nat)(cs:List Value),v=.slice (some ⟨b,0,none⟩) 9 9∧Sl i v 1 9 cs∧strs (A0q cs)=cs∧D8c 64 cs=true) (fun _ _ hi _ ⟨b,cs,h1,h2,h3⟩=>⟨b,cs,h1,h2.le hi,h3⟩) rfl rfl rfl rfl (fun i2 hi2 L' _=>⟨rfl,D2 (by kernel_rfl) rfl (D4n _ _) (fun _ _ _ _ ⟨h,h'⟩=>⟨h',h⟩)⟩) ?_;refine I6 (fun _ v=>∃s,v=.string s∧s.size≤64) (fun L'=>L'=(b5,E9n [.int .i64 z,.int .i64 y,.string E9f,.string og,.string (F0y #[98,108,111,99,107]),.string dr,.string al,.int .i64 kd,.int .i64 (1+x2),.slice aa l.length ac].toArray 56 (0,0))::(b4,E9n devZ.toArray 56 (0,0))::(tp,B5 lv (a2+1+1+1))::L) (SizeV.mono _) rfl rfl rfl rfl (fun i2 hi2 L' _ hA=>by rintro w ⟨b,cs,rfl,hb,hc1,hc2⟩;exact⟨rfl,by subst hA;exact D2 (by kernel_rfl) rfl (A6b 64 tp 2 lv _ _ _ _ i2 _ (hl.le hi2) hb rfl hc1 hc2 rfl rfl (by omega)) (fun _ _ _ _ ⟨s,h1,h2,h3,h4⟩=>⟨⟨_,h4⟩,⟨s,h1,h2⟩,h4⟩)⟩) ?_;refine C4 (fun i v=>∃l',S7 i v l'∧l'.length≤5) (fun _ _ hi _ ⟨l',h1,h2⟩=>⟨l',h1.le hi,h2⟩) rfl rfl rfl rfl (fun i2 hi2 L' _=>by rintro w ⟨s,rfl,hs⟩;exact⟨rfl,D2 (by kernel_rfl) rfl (Set_t _ l _ _ i2 _ (hat.le hi2) (by decide) hs (by omega)) (fun _ _ _ _ ⟨⟨l',h1,h2⟩,h'⟩=>⟨h',l',h1,by omega⟩)⟩) ?_
 refine zg rfl rfl rfl ?_;refine G1 rfl rfl (fun i2 L2 hi2 _ hA=>?_);subst hA;rintro w ⟨l',hat',hll'⟩ w2-w3-;obtain⟨aw,cw,rfl,_⟩:=id hat'.1;refine zw 0 rfl rfl rfl rfl ?_;refine zn ?_;repeat' (first|refine zp rfl ?_|refine zn ?_|refine A3 ?_|refine zo 0 rfl rfl rfl rfl ?_|refine zw 0 rfl rfl rfl rfl ?_|refine zw 1 rfl rfl rfl rfl ?_)
 exact⟨_,_,_,_,_,_,rfl,Has.own 1 rfl,rfl,_,_,⟨⟨_,_,_,_,_,_,_,_,_,_⟩,_,rfl,⟨_,_,rfl,hat',⟨(show 1≤z∧z≤1000 by omega),hyb,(by first|assumption|exact E9w rfl),(by first|assumption|exact E9w rfl),(by first|assumption|exact E9w rfl),(by first|assumption|exact E9w rfl),(by first|assumption|exact E9w rfl)⟩⟩,hz2,hy⟩,_,by omega,by omega,rfl⟩
end Go.Proofs.YtckdkhhpjnefpaaGreatDoor
namespace Go.Proofs.YtckdkhhpjnefpaaGreatDoor
open Go Go.Eng Go.RowKit
theorem E8r{P:Program}{n:Nat}{c:Code}{f:Fr}{i:Imm}{L:SH}{Q:Ex→Fr→Imm→SH→Prop}(h:∀f',f'=f→CS P n c f' i L Q):CS P n c f i L Q:=h f rfl
def xS(b:Bool)(p:Nat×Obj):SH:=match b with|true=>[p]|false=>[]
def HT(f0:Fr)(tp b5:Nat)(lv v:Value)(ds:List Dev)(B a0:Int)(R:SH)(s:Nat→Bool)(g:Fr)(i:Imm)(L:SH):Prop:=
 ∃(b7:Nat)(a':Int)(dl:List Value)(d:Dev)(ao:Option Addr)(n c:Nat)(e:Int),(∀t,t∉[18,19,20,21,22,17,23,24,7]→g t=f0 t)∧(s 0=true→g 18=.agg #[v])∧(s 1=true→g 19=.pointer (some ⟨tp,0,none⟩))∧(s 2=true→g 20=.agg #[v])∧
  (s 3=true→g 21=.agg (E9d dl)∧R6 i dl d∧d.index≤B+1∧(d.parent=0∨C0p ds d.parent))∧(s 4=true→g 22=.tuple #[.agg #[.slice ao n c],.int .i64 e]∧(e=0→∃ds',A3x i (.slice ao n c) ds'∧Tr (B+1) ds'))∧
  (s 5=true→g 17=.tuple #[.agg #[.slice ao n c],.int .i64 e])∧(s 6=true→g 23=.agg #[.slice ao n c])∧(s 7=true→g 24=.int .i64 e)∧(s 8=true→g 7=.pointer (some ⟨b7,0,none⟩))∧(s 9=true→s 8=true)∧(s 5=true∨s 6=true∨s 7=true∨s 9=true→s 4=true)∧
  I5 i lv∧A3x i v ds∧Glb i∧a0≤a'∧a'≤a0+(bif s 3 then 60 else 0)∧
  L.Perm ((b5,E9n [v].toArray 46 (0,0))::(tp,B5 lv a')::(xS (s 8) (b7,(E9n [bif s 9 then F0h ao n c else .slice none 0 0].toArray 46 (0,0)))++R))
theorem Tree_t(tp:Nat)(lv:Value)(a:Int)(i:Imm)(L:SH)(hg:Glb i)(hl:I5 i lv)(ha:0≤a∧a≤400000000000):
 E6 E9c 13 [.pointer (some ⟨tp,0,none⟩),.int .i64 8] i ((tp,B5 lv a)::L) fun r i' L'=>(∃v ds,r=.agg #[v]∧A3x i' v ds∧Tr 8 ds)∧∃a',a≤a'∧a'≤a+1000∧L'=(tp,B5 lv a')::L:=by
 refine E6.state (K:=fun r i' L'=>∃x y,(∃v ds,r=.agg #[v]∧A3x i' v ds∧Tr 8 ds)∧∃a',a≤a'∧a'≤a+1000∧L'=x::(tp,B5 lv a')::y::L) ?_ ?_;rotate_left
 ·rintro r i' L' w _ hst ⟨x,y,h1,a',h2,h3,rfl⟩;exact⟨i',_,Imm.le.refl i',St.dropMid (A:=[(tp,B5 lv a')]) (G:=[y]) (R:=L) hst.drop,h1,a',h2,h3,rfl⟩
 refine O8 A1 Tryz.func13 rfl rfl (by simp) rfl ?_;repeat' (first|refine zn ?_|(refine zr 0 ?_;refine C1 A1 rfl rfl (fun b4=>?_);(all_goals refine zn ?_))|(refine zr 1 ?_;refine C1 A1 rfl rfl (fun b5=>?_);(all_goals refine zn ?_))|(refine zr 2 ?_;refine zp rfl ?_;refine zp rfl ?_;refine zd rfl rfl (by omega) rfl ?_;(refine A7 (J7 _ 2 _ _ _ _ _ hl rfl (by omega) (by omega)) rfl (by kernel_rfl) rfl ?_;rintro _ _ _-⟨x,rfl,⟨hx0,hx1⟩,rfl,rfl⟩);(all_goals refine zp rfl ?_);(all_goals refine zn ?_)))
 refine A1r (L':=(b5,E9n [F0h none 0 0].toArray 46 (0,0))::(tp,B5 lv (a+1))::(b4,E9n [F0h none 0 0].toArray 46 (0,0))::L) (List.Perm.cons _ (List.Perm.swap _ _ _)) ?_;refine B1 [0,4,5,6] (fun m vs i' L'=>∃(k:Nat)(ao:Option Addr)(n c:Nat)(ds:List Dev)(a':Int),k=m∧k≤8∧a+1≤a'∧a'+61*k≤a+500∧vs=[.pointer (some ⟨tp,0,none⟩),.pointer (some ⟨b4,0,none⟩),.pointer (some ⟨b5,0,none⟩),.int .i64 (k:Int)]∧Glb i'∧I5 i' lv∧A3x i' (.slice ao n c) ds∧Tr (8-k) ds∧L'=(b5,E9n [F0h ao n c].toArray 46 (0,0))::(tp,B5 lv a')::(b4,E9n [F0h none 0 0].toArray 46 (0,0))::L) _ ⟨x.toNat,none,0,0,[],a+1,rfl,by omega,by omega,by omega,by rw[show((x.toNat:Nat):Int)=x by omega];rfl,hg,hl,⟨⟨[],⟨_,_,rfl,rfl,.inl rfl⟩,⟨rfl,fun k d h=>by cases h⟩,by simp⟩,⟨_,_,_,rfl,E9q _,.inl ⟨rfl,rfl,rfl⟩⟩⟩,Tr.nil _,rfl⟩ ?_;clear hg hl;rintro m g vs i _ hi ⟨k,ao,n,c,ds,at1,rfl,hk,ha1,ha2,rfl,hg,hl,hv,hT,rfl⟩;by_cases h0:0<k;rotate_left
 ·obtain rfl:k=0:=by omega
  repeat' (first|refine zp rfl ?_|refine zn ?_|refine A0 rfl ?_|refine zs [3,8] rfl ?_|refine A6 (I0 rfl rfl (by omega)) rfl ?_|refine zo 0 rfl rfl rfl rfl ?_|refine zw 2 rfl rfl rfl rfl ?_)
  exact⟨_,_,_,_,_,_,rfl,Has.own 2 rfl,rfl,_,_,⟨_,ds,rfl,hv,hT.mono (by omega)⟩,at1,by omega,by omega,rfl⟩
 repeat' (first|refine zp rfl ?_|refine K9 (x:=.region 5 _ _) [0,4,5,6,7,8] (fun vs i' L'=>∃(b7:Nat)(ao':Option Addr)(n' c':Nat)(e a2:Int),(e=0→∃ds',A3x i' (.slice ao' n' c') ds'∧Tr (8-(k:Int)+1) ds')∧A3x i' (.slice ao n c) ds∧Glb i'∧I5 i' lv∧at1≤a2∧a2≤at1+60∧vs=[.pointer (some ⟨tp,0,none⟩),.pointer (some ⟨b4,0,none⟩),.pointer (some ⟨b5,0,none⟩),.int .i64 (k:Int),.pointer (some ⟨b7,0,none⟩),.int .i64 e]∧L'=(b7,E9n [F0h ao' n' c'].toArray 46 (0,0))::(b5,E9n [F0h ao n c].toArray 46 (0,0))::(tp,B5 lv a2)::(b4,E9n [F0h none 0 0].toArray 46 (0,0))::L) ?_ ?_|refine zn ?_|refine A2 rfl ?_|refine zr 3 ?_|refine A6 (J4 rfl rfl (by omega)) rfl ?_)
 ·refine E8r fun f0 hf0=>?_
  have f00:f0 0=.pointer (some ⟨tp,0,none⟩):=by rw[hf0];rfl
  have f04:f0 4=.pointer (some ⟨b4,0,none⟩):=by rw[hf0];rfl
  have f05:f0 5=.pointer (some ⟨b5,0,none⟩):=by rw[hf0];rfl
  have f06:f0 6=.int .i64 (k:Int):=by rw[hf0];rfl
  clear hf0;have hB:0≤8-(k:Int):=by omega
  have hB2:8-(k:Int)≤900:=by omega
  have hixB:∀(j:Nat)(x:Dev),ds[j]?=some x→x.index≤8-(k:Int):=fun j x h=>(hT.ix j x h).2
  obtain⟨v,hvv⟩:∃v,v=F0h ao n c:=⟨_,rfl⟩;rw[←hvv] at hv⊢;have hsv:M5 v=some [v]:=by rw[hvv];rfl
  obtain⟨B,hBB⟩:∃B:Int,B=8-(k:Int):=⟨_,rfl⟩;rw[←hBB] at hT hB hB2 hixB⊢;obtain⟨R,hR⟩:∃R,R=(b4,E9n [F0h none 0 0].toArray 46 (0,0))::L:=⟨_,rfl⟩;rw[←hR];clear hvv;have hT1:Tr (B+1) ds:=hT.mono (by omega);refine B2v J9 [0,1,2,3,4,5,6,7,8,9] [10] (by kernel_rfl) rfl (HT f0 tp b5 lv v ds B at1 R) ⟨0,at1,[],⟨0,0,.empty,.empty,.empty,.empty,.empty,0,0,[]⟩,none,0,0,0,fun _ _=>rfl,nofun,nofun,nofun,nofun,nofun,nofun,nofun,nofun,nofun,nofun,nofun,hl,hv,hg,by omega,by show at1≤at1+0;omega,List.Perm.refl _⟩ ?_ ?_
  ·clear hl hv hg;rintro j hj o ho s hs hp g i' L' hi ⟨b7,a',dl,d,ao,n,c,e,hfr,q0,q1,q2,q3,q4,q5,q6,q7,q8,q9,q10,hl,hv,hg,hb1,hb2,hL⟩;have g0:g 0=.pointer (some ⟨tp,0,none⟩):=(hfr 0 (by decide)).trans f00;have g5:g 5=.pointer (some ⟨b5,0,none⟩):=(hfr 5 (by decide)).trans f05;have hmem:(b5,E9n [v].toArray 46 (0,0))∈L':=hL.mem_iff.2 (F0g ..)
   have up:∀i'',Imm.le i' i''→(s 3=true→g 21=.agg (E9d dl)∧R6 i'' dl d∧d.index≤B+1∧(d.parent=0∨C0p ds d.parent))∧(s 4=true→g 22=.tuple #[.agg #[.slice ao n c],.int .i64 e]∧(e=0→∃ds',A3x i'' (.slice ao n c) ds'∧Tr (B+1) ds'))∧I5 i'' lv∧A3x i'' v ds∧Glb i'':=fun i'' h'=>
    ⟨fun h3=>let⟨e1,e2,e3⟩:=q3 h3;⟨e1,e2.le h',e3⟩,fun h4=>let⟨e1,e2⟩:=q4 h4;⟨e1,fun h=>let⟨ds',e3,e4⟩:=e2 h;⟨ds',e3.le h',e4⟩⟩,hl.le h',hv.le h',hg.le h'⟩
   simp only[F0b,List.not_mem_nil,or_false] at hj;rcases hj with rfl|rfl|rfl|rfl|rfl|rfl|rfl|rfl|rfl|rfl
   all_goals cases ho
   ·refine .inl ⟨rfl,P3.mono (C3d (D9 (l:=[v]) A1 (b:=b5) (off:=0) (by show g 5=_;rw[g5]) (Has.mem hmem) rfl rfl rfl (fun j u h=>by rw[F1b];exact h))) fun w i'' _ hi' ⟨hL',hw⟩=>?_⟩;subst hL';subst hw;obtain⟨u3,u4,ul,uv,ug⟩:=up _ hi';exact⟨b7,a',dl,d,ao,n,c,e,(fun t ht=>(M8 g _ (fun e=>ht (by rw[e];decide))).trans (hfr t ht)),fun _=>K2 g _ _,q1,q2,u3,u4,q5,q6,q7,q8,q9,q10,ul,uv,ug,hb1,hb2,hL⟩
   ·refine .inl ⟨rfl,P3.mono (H4 (B5n (v:=.pointer (some ⟨tp,0,none⟩)) (by show sv (g 0)=_;rw[g0];rfl))) fun w i'' _ hi' ⟨hL',hw⟩=>?_⟩;subst hL';subst hw;obtain⟨u3,u4,ul,uv,ug⟩:=up _ hi';exact⟨b7,a',dl,d,ao,n,c,e,(fun t ht=>(M8 g _ (fun e=>ht (by rw[e];decide))).trans (hfr t ht)),q0,fun _=>K2 g _ _,q2,u3,u4,q5,q6,q7,q8,q9,q10,ul,uv,ug,hb1,hb2,hL⟩
   ·refine .inl ⟨rfl,P3.mono (C3d (D9 (l:=[v]) A1 (b:=b5) (off:=0) (by show g 5=_;rw[g5]) (Has.mem hmem) rfl rfl rfl (fun j u h=>by rw[F1b];exact h))) fun w i'' _ hi' ⟨hL',hw⟩=>?_⟩;subst hL';subst hw;obtain⟨u3,u4,ul,uv,ug⟩:=up _ hi';exact⟨b7,a',dl,d,ao,n,c,e,(fun t ht=>(M8 g _ (fun e=>ht (by rw[e];decide))).trans (hfr t ht)),q0,q1,fun _=>K2 g _ _,u3,u4,q5,q6,q7,q8,q9,q10,ul,uv,ug,hb1,hb2,hL⟩
   ·have h1:=q1 (hp ⟨1,.data⟩ (by simp) rfl);have h2:=q2 (hp ⟨2,.data⟩ (by simp) rfl);have hbb:a'≤at1:=by rw[hs] at hb2;simp only[cond_false] at hb2;omega
    refine .inl ⟨rfl,P3.mono (D2 (vs:=[.pointer (some ⟨tp,0,none⟩),.agg #[v]]) (by kernel_rfl) (by show [g 19,g 20]=_;rw[h1,h2]) (E6.frame (hL.trans (List.Perm.swap _ _ _)) (E8k tp lv a' v ds B _ _ hl (by omega) hv.1 hixB ⟨hB,hB2⟩)) fun _ _ _ _ h=>h) fun w i'' _ hi' ⟨⟨d2,l2,hw,hd1,hd2,hd3⟩,a3,hc1,hc2,hL'⟩=>?_⟩;subst hL';subst hw;obtain⟨u3,u4,ul,uv,ug⟩:=up _ hi';refine⟨b7,a3,l2,d2,ao,n,c,e,(fun t ht=>(M8 g _ (fun e=>ht (by rw[e];decide))).trans (hfr t ht)),q0,q1,q2,fun _=>⟨K2 g _ _,hd1,hd2,hd3⟩,u4,q5,q6,q7,q8,q9,q10,ul,uv,ug,by omega,?_,List.Perm.swap _ _ _⟩;show a3≤at1+60;omega
   ·have h0:=q0 (hp ⟨0,.data⟩ (by simp) rfl);obtain⟨h3,h4,h5,h6⟩:=q3 (hp ⟨3,.data⟩ (by simp) rfl)
    have h9:s 9=false:=by
     cases h:s 9 with
     |false=>rfl
     |true=>rw[q10 (.inr (.inr (.inr h)))] at hs;cases hs
    refine .inl ⟨rfl,P3.mono (D2 (vs:=[.agg #[v],.agg (E9d dl)]) (by kernel_rfl) (by show [g 18,g 21]=_;rw[h0,h3]) (E8e v ds dl d (B+1) _ L' hg hv hT1 h4 h5 h6) fun _ _ _ _ h=>h) fun w i'' _ hi' ⟨⟨ao2,n2,c2,e2,hw,hok⟩,hL'⟩=>?_⟩;subst hL';subst hw;obtain⟨u3,u4,ul,uv,ug⟩:=up _ hi';refine⟨b7,a',dl,d,ao2,n2,c2,e2,(fun t ht=>(M8 g _ (fun e=>ht (by rw[e];decide))).trans (hfr t ht)),q0,q1,q2,u3,fun _=>⟨K2 g _ _,hok⟩,fun h=>?_,fun h=>?_,fun h=>?_,q8,q9,fun _=>rfl,ul,uv,ug,hb1,hb2,?_⟩
    ·rw[q10 (.inl h)] at hs;cases hs
    ·rw[q10 (.inr (.inl h))] at hs;cases hs
    ·rw[q10 (.inr (.inr (.inl h)))] at hs;cases hs
    ·show List.Perm _ ((b5,E9n [v].toArray 46 (0,0))::(tp,B5 lv a')::(xS (s 8) (b7,E9n [bif s 9 then F0h ao2 n2 c2 else .slice none 0 0].toArray 46 (0,0))++R));rw[h9] at hL⊢;exact hL
   ·obtain⟨h4,_⟩:=q4 (hp ⟨4,.data⟩ (by simp) rfl);refine .inl ⟨rfl,P3.mono (H4 (B5n (v:=.tuple #[.agg #[.slice ao n c],.int .i64 e]) (by show sv (g 22)=_;rw[h4];rfl))) fun w i'' _ hi' ⟨hL',hw⟩=>?_⟩;have hs4:=hp ⟨4,.data⟩ (by simp) rfl;subst hL';subst hw;obtain⟨u3,u4,ul,uv,ug⟩:=up _ hi';exact⟨b7,a',dl,d,ao,n,c,e,(fun t ht=>(M8 g _ (fun e=>ht (by rw[e];decide))).trans (hfr t ht)),q0,q1,q2,u3,u4,fun _=>K2 g _ _,q6,q7,q8,q9,fun _=>hs4,ul,uv,ug,hb1,hb2,hL⟩
   ·have hs5:=hp ⟨5,.data⟩ (by simp) rfl;have h5:=q5 hs5;have hs4:=q10 (.inl hs5);refine .inl ⟨rfl,P3.mono (H4 (A5f (vs:=#[.agg #[.slice ao n c],.int .i64 e]) (v:=.agg #[.slice ao n c]) (by show g 17=_;rw[h5]) rfl)) fun w i'' _ hi' ⟨hL',hw⟩=>?_⟩;subst hL';subst hw;obtain⟨u3,u4,ul,uv,ug⟩:=up _ hi';exact⟨b7,a',dl,d,ao,n,c,e,(fun t ht=>(M8 g _ (fun e=>ht (by rw[e];decide))).trans (hfr t ht)),q0,q1,q2,u3,u4,q5,fun _=>K2 g _ _,q7,q8,q9,fun _=>hs4,ul,uv,ug,hb1,hb2,hL⟩
   ·have hs5:=hp ⟨5,.data⟩ (by simp) rfl;have h5:=q5 hs5;have hs4:=q10 (.inl hs5);refine .inl ⟨rfl,P3.mono (H4 (A5f (vs:=#[.agg #[.slice ao n c],.int .i64 e]) (v:=.int .i64 e) (by show g 17=_;rw[h5]) rfl)) fun w i'' _ hi' ⟨hL',hw⟩=>?_⟩;subst hL';subst hw;obtain⟨u3,u4,ul,uv,ug⟩:=up _ hi';exact⟨b7,a',dl,d,ao,n,c,e,(fun t ht=>(M8 g _ (fun e=>ht (by rw[e];decide))).trans (hfr t ht)),q0,q1,q2,u3,u4,q5,q6,fun _=>K2 g _ _,q8,q9,fun _=>hs4,ul,uv,ug,hb1,hb2,hL⟩
   ·have h9:s 9=false:=by
     cases h:s 9 with
     |false=>rfl
     |true=>rw[q9 h] at hs;cases hs
    refine .inl ⟨rfl,A2a A1 rfl fun b'=>?_⟩;refine⟨b',a',dl,d,ao,n,c,e,(fun t ht=>(M8 g _ (fun e=>ht (by rw[e];decide))).trans (hfr t ht)),q0,q1,q2,q3,q4,q5,q6,q7,fun _=>K2 g _ _,fun _=>rfl,q10,hl,hv,hg,hb1,hb2,?_⟩;rw[hs,h9] at hL
    refine(List.Perm.cons _ hL).trans ?_
    show((b',E9n [F0h none 0 0].toArray 46 (0,0))::_::_::([]++R)).Perm (_::_::(xS true (b',E9n [bif s 9 then F0h ao n c else .slice none 0 0].toArray 46 (0,0))++R))
    rw[h9];refine A3c _ _ fun f=>?_
    simp only[xS,cond_false,List.map_append,F0w,List.sum_append,List.sum_cons,List.map_nil,List.sum_nil];omega
   ·have hs4:=hp ⟨4,.chain⟩ (by simp) rfl;have hs8:=hp ⟨8,.data⟩ (by simp) rfl;have h6:=q6 (hp ⟨6,.data⟩ (by simp) rfl);have h8:=q8 hs8;rw[hs,hs8] at hL;refine .inl ⟨rfl,B8g (L':=(b5,E9n [v].toArray 46 (0,0))::(tp,B5 lv a')::(b7,E9n [F0h none 0 0].toArray 46 (0,0))::R) hL (B9b (k:=2) (vs:=[.slice ao n c]) A1 (by show g 7=_;rw[h8]) (by show g 23=_;rw[h6]) rfl rfl (List.cons_ne_nil _ _) rfl ?_)⟩;refine⟨b7,a',dl,d,ao,n,c,e,hfr,q0,q1,q2,q3,q4,q5,q6,q7,q8,fun _=>hs8,fun _=>hs4,hl,hv,hg,hb1,hb2,?_⟩;show List.Perm _ (_::_::(xS (s 8) (b7,E9n [F0h ao n c].toArray 46 (0,0))++R));rw[hs8];exact List.Perm.refl _
  ·clear hl hv hg;rintro g i' L' hi ⟨b7,a',dl,d,ao2,n2,c2,e,hfr,q0,q1,q2,q3,q4,q5,q6,q7,q8,q9,q10,hl,hv,hg,hb1,hb2,hL⟩;have g0:g 0=.pointer (some ⟨tp,0,none⟩):=(hfr 0 (by decide)).trans f00;have g4:g 4=.pointer (some ⟨b4,0,none⟩):=(hfr 4 (by decide)).trans f04;have g5:g 5=.pointer (some ⟨b5,0,none⟩):=(hfr 5 (by decide)).trans f05;have g6:g 6=.int .i64 (k:Int):=(hfr 6 (by decide)).trans f06;have hb2:a'≤at1+60:=hb2;refine J3 (L':=(b7,E9n [F0h ao2 n2 c2].toArray 46 (0,0))::(b5,E9n [v].toArray 46 (0,0))::(tp,B5 lv a')::R) (hL.trans ?_) ?_
   ·show(_::_::(b7,E9n [F0h ao2 n2 c2].toArray 46 (0,0))::R).Perm _
    exact(List.Perm.cons _ (List.Perm.swap _ _ _)).trans (List.Perm.swap _ _ _)
   refine A6 (A1z (v:=.int .i64 e) (by show sv (g 24)=_;rw[q7 rfl];rfl)) rfl ?_;refine zn ?_;refine zn ?_;refine⟨b7,ao2,n2,c2,e,a',(q4 rfl).2,hv,hg,hl,hb1,hb2,?_,rfl⟩;show [g 0,g 4,g 5,g 6,g 7,F0u .i64 e]=_;rw[g0,g4,g5,g6,q8 rfl]
 clear hg hl hv;rintro fr vs i2 _ hi2 ⟨b7,ao',n',c',e,a2,hok,hv,hg,hl,ha3,ha4,rfl,rfl⟩;by_cases he:e=0
 ·subst he;obtain⟨ds',hv',hT'⟩:=hok rfl;repeat' (first|refine zn ?_|refine A2 rfl ?_|(refine zr 4 ?_;refine zp rfl ?_;refine A6 (H3 rfl rfl (by omega)) rfl ?_;(refine zp rfl ?_;refine Y9 [_] ((b5,_)::_) ?_);(all_goals refine zn ?_))|(refine zr 6 ?_;refine zp rfl ?_;(refine A6 (G9 rfl rfl (by omega)) rfl ?_);(all_goals refine zn ?_))|(refine zr 7 ?_;(refine zo 0 rfl rfl rfl rfl ?_);(refine zw 1 rfl rfl rfl rfl ?_);refine zn ?_))
  exact⟨k-1,by omega,k-1,ao',n',c',ds',a2,rfl,by omega,by omega,by omega,by rw[show((k-1:Nat):Int)=(k:Int)-1 by omega];rfl,hg,hl,hv',hT'.mono (by omega),rfl⟩
 ·repeat' (first|refine zn ?_|refine A0 rfl ?_|(refine zr 4 ?_;refine zp rfl ?_;refine A6 (H3 rfl rfl (by omega)) rfl ?_;(refine zp rfl ?_;refine Y9 [_] ((b5,_)::_) ?_);(all_goals refine zn ?_))|(refine zr 6 ?_;refine zp rfl ?_;(refine A6 (H5 rfl rfl (by omega)) rfl ?_);(all_goals refine zn ?_)))
  exact⟨k-1,by omega,k-1,ao,n,c,ds,a2,rfl,by omega,by omega,by omega,by rw[show((k-1:Nat):Int)=(k:Int)-1 by omega];rfl,hg,hl,hv,hT.mono (by omega),rfl⟩
end Go.Proofs.YtckdkhhpjnefpaaGreatDoor
namespace Go.Proofs.YtckdkhhpjnefpaaGreatDoor
open Go Go.Eng
theorem C7f(v:Value)(i:Imm)(L:SH)(hg:Glb i)(hl:I5 i v)
 (hk:∀i' L',i.le i'→E6 E9c 12 [] i' L' fun r i'' L''=>r=.bool true∧L''=L'):
 E6 E9c 5 [v] i L fun r i' L'=>∃G,r=.bool true∧L'=G++L:=by
 obtain⟨ao,ln,cap,rfl,hln,hcs⟩:=id hl;refine A5 Tryz.func5 rfl rfl (by simp) rfl ?_;repeat' (first|refine zp rfl ?_|refine zn ?_|refine zs [0,1] rfl ?_|refine E4 rfl rfl (fun tp=>?_))
 refine zr 2 ?_;refine zp rfl ?_;refine A7 (rules_t tp (.slice ao ln cap) 0 _ _ hg hl (by omega)) rfl (by kernel_rfl) rfl ?_;rintro _ i1 _ hi1 ⟨⟨ra,rb,ls,lu,rfl,hra,hrb,hs,hu⟩,a',ha0,ha1,rfl⟩;obtain⟨ara,nra,cra,rfl,-⟩:=hra.shape;obtain⟨arb,nrb,crb,rfl,-⟩:=hrb.shape;obtain⟨rs,hrs⟩:=hra.val;obtain⟨us,hus⟩:=hrb.val;obtain⟨x1,x2,x3,x4,x5,x6,x7,x8,x9,x10,x11,x12,x13,x14,x15,x16,x17,x18,x19,x20,x21,x22,x23,x24,x25,rfl⟩:=hs.shape;obtain⟨y1,y2,y3,y4,y5,y6,y7,y8,y9,y10,y11,y12,y13,y14,y15,y16,y17,y18,y19,y20,y21,y22,y23,y24,y25,rfl⟩:=hu.shape;iterate 5 refine zp rfl ?_
 refine C1 A1 rfl rfl (fun b6=>?_);refine C1 A1 rfl rfl (fun b7=>?_);iterate 2 refine zp rfl ?_
 refine zw 1 rfl rfl rfl rfl ?_
 (all_goals((refine zw 0 rfl rfl rfl rfl ?_)))
 all_goals refine zn ?_
 repeat' (first|refine zn ?_|fail)
 refine zr 3 ?_;refine zp rfl ?_;refine J3 (E9x [_,_] [_] L) ?_;refine A7 (Tree_t tp (.slice ao ln cap) a' _ _ (hg.le hi1) (hl.le hi1) (by omega)) rfl (by kernel_rfl) rfl ?_;rintro _ i2 _ hi2 ⟨⟨vt,ds,rfl,ht,hTr⟩,a2,ha2,ha3,rfl⟩;replace hrs:=hrs.le hi2;replace hus:=hus.le hi2;have hle:=hi1.trans hi2;obtain⟨_,⟨at_,ct,rfl,_⟩,_,hn⟩:=id ht.1;refine C1 A1 rfl rfl (fun b8=>?_);refine zw 0 rfl rfl rfl rfl ?_;all_goals refine zn ?_
 refine zn ?_;refine A2b (fun i3 hi3 g8=>?_);replace hle:=hle.trans hi3;have hdv:=ht.1.le hi3;replace hrs:=hrs.le hi3;replace hus:=hus.le hi3;obtain⟨H,hH⟩:∃H:SH,H=(tp,B5 (.slice ao ln cap) a2)::(b7,H2 (.slice y1 y9 y10) (.slice y2 y11 y12) (.slice y3 y13 y14) (.slice y4 y15 y16) (.slice y5 y17 y18) (.slice y6 y19 y20) (.slice y7 y21 y22) (.slice y8 y23 y24) (.int .i64 y25))::(b6,H2 (.slice x1 x9 x10) (.slice x2 x11 x12) (.slice x3 x13 x14) (.slice x4 x15 x16) (.slice x5 x17 x18) (.slice x6 x19 x20) (.slice x7 x21 x22) (.slice x8 x23 x24) (.int .i64 x25))::L:=⟨_,rfl⟩;refine A1r (L':=H) (List.Perm.of_eq (by rw[hH];rfl)) ?_;repeat' (first|refine zn ?_|fail)
 refine zr 4 ?_;iterate 2 refine zp rfl ?_
 refine D4 (B0 A1 rfl (Has.imm g8) rfl) rfl ?_;refine A7 (B1g _ _ _ rs us ds _ _ hrs hus hdv hTr.ok) rfl (by kernel_rfl) rfl ?_;rintro w4 i4 L4 hi4 ⟨⟨a,b,hpa,hpb,hhit⟩,hLL⟩;subst hLL;obtain⟨a9,c9,rfl,_⟩:=id hhit.1;refine zp rfl ?_;refine zn ?_;repeat' (first|refine zn ?_|fail)
 refine zr 5 ?_;iterate 2 refine zp rfl ?_
 refine A7 (D1k _ _ rs us _ _ (hrs.le hi4) (hus.le hi4)) rfl (by kernel_rfl) rfl ?_;rintro w5 i5 L5 hi5 ⟨⟨a',b',hpa',hpb',es,hes,her⟩,hLL⟩;subst hLL;obtain rfl:=hpa.uniq hpa';obtain rfl:=hpb.uniq hpb';obtain⟨aw,cw,rfl,_⟩:=id hes;have hq:=C1p hrs hus a b;refine zp rfl ?_;refine zn ?_;obtain⟨qs,hqs0⟩:∃qs,qs=V1 rs us a b:=⟨_,rfl⟩;rw[←hqs0] at hes her hq hhit;rw[←hqs0];have l5:=hi4.trans hi5;replace hrs:=hrs.le l5;replace hus:=hus.le l5;replace hdv:=hdv.le l5;replace g8:=l5.blk _ _ g8;replace hhit:=hhit.le hi5;replace hle:=hle.trans l5;repeat' (first|refine zn ?_|fail)
 refine zr 6 ?_;refine zp rfl ?_;refine zn ?_;refine zn ?_;refine K9 [4,5,8,9,10,11] (fun vs i' L'=>∃bb:Bool,vs=[.slice ara nra cra,.slice arb nrb crb,.pointer (some ⟨b8,0,none⟩),.slice a9 (C2n ds qs).length c9,.slice aw qs.length cw,.bool bb]∧(bb=true↔∃(j:Nat)(r:Rul),j<qs.length∧qs[j]?=some r∧A3w r.terms)∧i'=i5∧L'=L5) ?_ ?_
 ·repeat' (first|refine zn ?_|(refine zr 7 ?_;refine zp rfl ?_;refine zn ?_))
  refine B1 [4,5,8,9,10,11,12] (fun m vs i' L'=>∃(q:Nat)(bb:Bool),m=qs.length-q∧q≤qs.length∧vs=[.slice ara nra cra,.slice arb nrb crb,.pointer (some ⟨b8,0,none⟩),.slice a9 (C2n ds qs).length c9,.slice aw qs.length cw,.bool bb,.int .i64 (q:Int)]∧(bb=true↔∃(j:Nat)(r:Rul),j<q∧qs[j]?=some r∧A3w r.terms)∧i'=i5∧L'=L5) _ ⟨0,false,rfl,E9k _,rfl,⟨(fun h=>by cases h),(fun⟨j,r,h,_⟩=>absurd h (by omega))⟩,rfl,rfl⟩ ?_;rintro m g vs i6 L6 hi6 ⟨q,bb,rfl,hq2,rfl,hbb,rfl,rfl⟩;by_cases hql:q<qs.length
  ·obtain⟨r,hr⟩:=zi qs q hql;obtain⟨b2,o2,c3,t2,z2,p2,ta1,tc1,e2,g2,q2,hs1,hn1⟩:=RVc.at hes her hr;cases e2;repeat' (first|refine zp rfl ?_|refine zn ?_|refine A2 rfl ?_|refine zs [8,10] rfl ?_|refine zt rfl rfl (by omega) rfl ?_)
   refine B1 [4,5,8,9,10,11,12,13] (fun m vs i' L'=>∃(k:Nat)(cc:Bool),m=r.terms.length-k∧k≤r.terms.length∧vs=[.slice ara nra cra,.slice arb nrb crb,.pointer (some ⟨b8,0,none⟩),.slice a9 (C2n ds qs).length c9,.slice (some ⟨b2,o2,none⟩) qs.length cw,.bool cc,.int .i64 (q:Int),.int .i64 (k:Int)]∧(cc=true↔bb=true∨∃(j:Nat)(t:Term),j<k∧r.terms[j]?=some t∧(t.key=23∨t.key=24))∧i'=i6∧L'=L6) r.terms.length ⟨0,bb,rfl,E9k _,rfl,⟨.inl,fun h=>h.elim id (fun⟨j,r,h,_⟩=>absurd h (by omega))⟩,rfl,rfl⟩ ?_;rintro m g vs i7 L7 hi7 ⟨k,cc,rfl,hk2,rfl,hcc,rfl,rfl⟩;by_cases hkl:k<r.terms.length
   ·obtain⟨t,ht⟩:=zi r.terms k hkl;obtain⟨b3,o3,c4,t3,z3,p3,e3,g3,q3⟩:=Y4 hs1 ht;cases e3
    have step:∀c':Bool,(c'=true↔cc=true∨t.key=23∨t.key=24)→(c'=true↔bb=true∨∃(j:Nat)(t:Term),j<k+1∧r.terms[j]?=some t∧(t.key=23∨t.key=24)):=by
     intro c' h;rw[h,hcc];constructor
     ·rintro((h|⟨j,x,h1,h2⟩)|h)
      ·exact .inl h
      ·exact .inr ⟨j,x,by omega,h2⟩
      ·exact .inr ⟨k,t,by omega,ht,h⟩
     ·rintro(h|⟨j,x,h1,h2,h3⟩)
      ·exact .inl (.inl h)
      ·rcases F0m.1 h1 with h1|rfl
       ·exact .inl (.inr ⟨j,x,h1,h2,h3⟩)
       ·rw[ht] at h2;cases h2;exact .inr h3
    repeat' (first|refine zp rfl ?_|refine zn ?_|refine A2 rfl ?_|refine zr 11 ?_|refine zx rfl rfl rfl (by omega) rfl ?_|refine zm g2 (q2 2 _ rfl) rfl rfl rfl ?_|refine zt rfl rfl (by omega) rfl ?_)
    cases cc
    ·by_cases h23:t.key=23
     ·repeat' (first|refine zp rfl ?_|refine zn ?_|refine zs [12,13] rfl ?_|refine zd rfl rfl (by omega) rfl ?_|refine zx rfl rfl rfl (by omega) rfl ?_|refine zm g2 (q2 2 _ rfl) rfl rfl rfl ?_|refine zm g3 (q3 0 _ rfl) rfl rfl rfl ?_|refine A6 (G9 rfl rfl (by omega)) rfl ?_)
      exact⟨r.terms.length-(k+1),by omega,k+1,true,rfl,hkl,rfl,step true (by simp[h23]),rfl,rfl⟩
     ·by_cases h24:t.key=24
      ·repeat' (first|refine zp rfl ?_|refine zn ?_|refine zs [12,13] rfl ?_|refine zd rfl rfl (by omega) rfl ?_|refine zx rfl rfl rfl (by omega) rfl ?_|refine zm g2 (q2 2 _ rfl) rfl rfl rfl ?_|refine zm g3 (q3 0 _ rfl) rfl rfl rfl ?_|refine A6 (H5 rfl rfl (by omega)) rfl ?_|refine A6 (G9 rfl rfl (by omega)) rfl ?_)
       exact⟨r.terms.length-(k+1),by omega,k+1,true,rfl,hkl,rfl,step true (by simp[h24]),rfl,rfl⟩
      ·repeat' (first|refine zp rfl ?_|refine zn ?_|refine zs [12,13] rfl ?_|refine zd rfl rfl (by omega) rfl ?_|refine zx rfl rfl rfl (by omega) rfl ?_|refine zm g2 (q2 2 _ rfl) rfl rfl rfl ?_|refine zm g3 (q3 0 _ rfl) rfl rfl rfl ?_|refine A6 (H5 rfl rfl (by omega)) rfl ?_)
       exact⟨r.terms.length-(k+1),by omega,k+1,false,rfl,hkl,rfl,step false (by simp[h23,h24]),rfl,rfl⟩
    ·repeat' (first|refine zp rfl ?_|refine zn ?_|refine zs [12,13] rfl ?_|refine zd rfl rfl (by omega) rfl ?_)
     exact⟨r.terms.length-(k+1),by omega,k+1,true,rfl,hkl,rfl,step true (by simp),rfl,rfl⟩
   ·obtain rfl:k=r.terms.length:=by omega
    repeat' (first|refine zp rfl ?_|refine zn ?_|refine A0 rfl ?_|refine zs [9,11] rfl ?_|refine zd rfl rfl (by omega) rfl ?_|refine zx rfl rfl rfl (by omega) rfl ?_|refine zm g2 (q2 2 _ rfl) rfl rfl rfl ?_|refine zf rfl rfl (by omega) rfl ?_)
    refine⟨qs.length-(q+1),by omega,q+1,cc,rfl,hql,rfl,?_,rfl,rfl⟩;rw[hcc,hbb];constructor
    ·rintro(⟨j,x,h1,h2⟩|⟨j,t,h1,h2,h3⟩)
     ·exact⟨j,x,by omega,h2⟩
     ·exact⟨q,r,by omega,hr,t,E9g h2,h3⟩
    ·rintro⟨j,x,h1,h2,h3⟩
     rcases F0m.1 h1 with h1|rfl
     ·exact .inl ⟨j,x,h1,h2,h3⟩
     ·rw[hr] at h2;cases h2;obtain⟨t,ht,h4⟩:=h3;obtain⟨j,hj⟩:=F0j.1 ht;exact .inr ⟨j,t,(E9e.1 hj).1,hj,h4⟩
  ·obtain rfl:q=qs.length:=by omega
   repeat' (first|refine zp rfl ?_|refine zn ?_|refine A0 rfl ?_|refine zr 8 ?_|refine zf rfl rfl (by omega) rfl ?_)
   exact⟨bb,rfl,hbb,rfl,rfl⟩
 ·rintro g vs i6 L6 hi6 ⟨bb,rfl,hbb,rfl,rfl⟩
  have hjb:bb=true↔∃r∈qs,A3w r.terms:=by
   rw[hbb,jump_at];exact⟨fun⟨j,r,_,h⟩=>⟨j,r,h⟩,fun⟨j,r,h⟩=>⟨j,r,(E9e.1 h.1).1,h⟩⟩
  repeat' (first|refine zn ?_|(refine zr 14 ?_;refine zp rfl ?_;refine zn ?_))
  refine B1 [4,5,8,9,10,11,14] (fun m vs i' L'=>∃k:Nat,m=ds.length-k∧k≤ds.length∧vs=[.slice ara nra cra,.slice arb nrb crb,.pointer (some ⟨b8,0,none⟩),.slice a9 (C2n ds qs).length c9,.slice aw qs.length cw,.bool bb,.int .i64 (k:Int)]∧i6.le i'∧L'=L6) _ ⟨0,rfl,E9k _,rfl,Imm.le.refl _,rfl⟩ ?_;rintro m g vs i7 L7 hi7 ⟨k,rfl,hk2,rfl,l7,rfl⟩;replace hes:=hes.le l7;replace her:=her.le l7;replace hdv:=hdv.le l7;replace hhit:=hhit.le l7;replace g8:=l7.blk _ _ g8;by_cases hkl:k<ds.length
  ·obtain⟨d,hd⟩:=zi ds k hkl;obtain⟨b1,o1,c1,t1,z1,p1,ta,tc,e1,g1,q1,hda,hdk⟩:=hdv.at hd;cases e1;have hdown:=C6p (qs:=qs) hTr.ok hd;have hup:=affL_up (qs:=qs) hTr.ok hd;repeat' (first|refine zp rfl ?_|refine zn ?_|refine A2 rfl ?_|refine zr 15 ?_|refine D4 (B0 A1 rfl (Has.imm g8) rfl) rfl ?_|refine zt rfl rfl (by omega) rfl ?_)
   refine zr 17 ?_;refine zp rfl ?_;refine D4 (B0 A1 rfl (Has.imm g8) rfl) rfl ?_;refine zp rfl ?_;refine zx rfl rfl rfl (by omega) rfl ?_;refine D4 (D9 (l:=W4 d (.slice ta d.attrs.length tc)) A1 rfl (Has.imm g1) rfl rfl rfl q1) rfl ?_;refine C1 A1 rfl rfl (fun b15=>?_);refine zw 0 rfl rfl rfl rfl ?_;all_goals refine zn ?_
   refine zn ?_;refine A2b (fun i8 hi8 g15=>?_);replace hes:=hes.le hi8;replace her:=her.le hi8;replace hhit:=hhit.le hi8;replace hda:=hda.le hi8;repeat' (first|refine zn ?_|fail)
   refine F9 J9 [0,1,2,3,4,5,6,7] [8,9] [] (fun _=>True) (fun L'=>L'=L7) (by kernel_rfl) (by decide) rfl trivial rfl ?_;iterate 2 refine zg rfl rfl rfl ?_
   refine D7 (fun i' hi L' _=>B2 A1 rfl (Has.imm (hi.blk _ _ g15)) rfl rfl) rfl rfl rfl rfl rfl rfl ?_;refine B6m (v:=.bool (decide (d.index∈C2n ds qs))) rfl rfl rfl rfl (fun i4 hi4 L9 _=>⟨rfl,D2 (by kernel_rfl) rfl (In_t _ _ _ _ _ (hhit.le hi4)) (fun _ _ _ _ ⟨h,_,h'⟩=>⟨h',h⟩)⟩) ?_;iterate 2 refine zg rfl rfl rfl ?_
   refine D7 (fun i' hi L' _=>B2 A1 rfl (Has.imm (hi.blk _ _ g15)) rfl rfl) rfl rfl rfl rfl rfl rfl ?_;refine B6m (v:=.bool (decide (d.parent∈C2n ds qs))) rfl rfl rfl rfl (fun i4 hi4 L9 _=>⟨rfl,D2 (by kernel_rfl) rfl (In_t _ _ _ _ _ (hhit.le hi4)) (fun _ _ _ _ ⟨h,_,h'⟩=>⟨h',h⟩)⟩) ?_;refine G1 rfl rfl (fun i9 L9 hi9 _ hA=>?_);subst hA;iterate 2 refine zp rfl ?_
   refine zn ?_;have l9:=l7.trans (hi8.trans hi9);by_cases hA:d.parent∈C2n ds qs
   ·have hI:=hdown hA;rw[decide_eq_true hA,decide_eq_true hI];repeat' (first|refine zn ?_|fail)
    refine zr 19 ?_;iterate 2 refine zp rfl ?_
    refine zp rfl ?_;refine zp rfl ?_;iterate 2 refine zp rfl ?_
    iterate 15 refine zp rfl ?_
    (all_goals(refine zp rfl ?_))
    all_goals refine zp rfl ?_
    all_goals refine zn ?_
    repeat' (first|refine zp rfl ?_|refine zn ?_|refine A0 rfl ?_|refine zr 16 ?_|refine zd rfl rfl (by omega) rfl ?_)
    exact⟨ds.length-(k+1),by omega,k+1,rfl,hkl,rfl,l9,rfl⟩
   ·rw[decide_eq_false hA];by_cases hI:d.index∈C2n ds qs
    ·rw[decide_eq_true hI];cases bb
     ·have hno:¬ ∃r∈qs,A3w r.terms:=fun h=>Bool.noConfusion (hjb.2 h)
      obtain⟨j,r,hr,hc⟩:=hup hI hA hno;repeat' (first|refine zn ?_|fail)
      refine zr 19 ?_;iterate 2 refine zp rfl ?_
      refine zp rfl ?_;refine zp rfl ?_;iterate 2 refine zp rfl ?_
      iterate 11 refine zp rfl ?_
      refine D4 (B0 A1 rfl (Has.imm (hi9.blk _ _ g15)) rfl) rfl ?_;refine A7 (B9p _ qs es d (W4 d (.slice ta d.attrs.length tc)) _ _ (hes.le hi9) (her.le hi9) hq ⟨ta,tc,rfl,hda.le hi9,hdk⟩) rfl (by kernel_rfl) rfl ?_;rintro _ i10 L10 hi10 ⟨⟨a10,n10,c10,rfl,hz10,_⟩,hLL⟩;subst hLL;have hn10:n10≠0:=fun h=>hz10.1 h j r hr hc
      refine zp rfl ?_;refine A6 (H5 rfl rfl (by omega)) rfl ?_
      (all_goals(refine zp rfl ?_))
      all_goals refine zp rfl ?_
      all_goals refine zn ?_
      repeat' (first|refine zp rfl ?_|refine zn ?_|refine A0 rfl ?_|refine zr 16 ?_|refine zd rfl rfl (by omega) rfl ?_)
      exact⟨ds.length-(k+1),by omega,k+1,rfl,hkl,rfl,l9.trans hi10,rfl⟩
     ·repeat' (first|refine zn ?_|fail)
      refine zr 19 ?_;iterate 2 refine zp rfl ?_
      refine zp rfl ?_;refine zp rfl ?_;iterate 2 refine zp rfl ?_
      iterate 15 refine zp rfl ?_
      (all_goals(refine zp rfl ?_))
      all_goals refine zp rfl ?_
      all_goals refine zn ?_
      repeat' (first|refine zp rfl ?_|refine zn ?_|refine A0 rfl ?_|refine zr 16 ?_|refine zd rfl rfl (by omega) rfl ?_)
      exact⟨ds.length-(k+1),by omega,k+1,rfl,hkl,rfl,l9,rfl⟩
    ·rw[decide_eq_false hI];repeat' (first|refine zn ?_|fail)
     refine zr 19 ?_;iterate 2 refine zp rfl ?_
     refine zp rfl ?_;refine zp rfl ?_;iterate 2 refine zp rfl ?_
     iterate 15 refine zp rfl ?_
     (all_goals(refine zp rfl ?_))
     all_goals refine zp rfl ?_
     all_goals refine zn ?_
     repeat' (first|refine zp rfl ?_|refine zn ?_|refine A0 rfl ?_|refine zr 16 ?_|refine zd rfl rfl (by omega) rfl ?_)
     exact⟨ds.length-(k+1),by omega,k+1,rfl,hkl,rfl,l9,rfl⟩
  ·obtain rfl:k=ds.length:=by omega
   repeat' (first|refine zp rfl ?_|refine zn ?_|refine A0 rfl ?_|refine zr 15 ?_|refine D4 (B0 A1 rfl (Has.imm g8) rfl) rfl ?_|refine zf rfl rfl (by omega) rfl ?_)
   refine zr 21 ?_;iterate 2 refine zp rfl ?_
   refine D4 (B0 A1 rfl (Has.imm g8) rfl) rfl ?_;refine A7 (B1g _ _ _ us rs ds _ _ (hus.le l7) (hrs.le l7) hdv hTr.ok) rfl (by kernel_rfl) rfl ?_;rintro w8 i8 L8 hi8 ⟨⟨a',b',hpa',hpb',hres⟩,hLL⟩;subst hLL;obtain rfl:=hpa.commF.uniq hpa';obtain rfl:=hpb.commB.uniq hpb';rw[C6q,←hqs0] at hres;refine zp rfl ?_;refine A7 (D3v _ _ _ _ _ hres (hhit.le hi8)) rfl (by kernel_rfl) rfl ?_;rintro _ i9 L9 hi9 ⟨rfl,_,hLL⟩;subst hLL;refine zp rfl ?_;refine A7 (hk _ _ (hle.trans (l7.trans (hi8.trans hi9)))) rfl (by kernel_rfl) rfl ?_;rintro _ i10 L10 hi10 ⟨rfl,hLL⟩;subst hLL;iterate 2 refine zp rfl ?_
   refine zn ?_;repeat' (first|refine zn ?_|fail)
   exact⟨[_,_,_],rfl,by rw[hH];rfl⟩
end Go.Proofs.YtckdkhhpjnefpaaGreatDoor
namespace Go.Proofs
open Go.Shelf
def A4m:Go.Shelf.Ren:=⟨fun|159=>261|165=>249|166=>250|167=>303|169=>252|230=>304|204=>305|240=>297|241=>298|197=>251|118=>328|168=>329|270=>330|262=>331|276=>325|277=>326|260=>299|242=>346|313=>347|278=>362|274=>363|275=>364|n=>n,fun|9=>9|4=>4|3=>3|5=>5|72=>303|0=>0|76=>307|75=>306|107=>355|70=>301|20=>20|37=>289|127=>351|21=>21|105=>309|164=>205|162=>392|203=>390|119=>372|46=>214|139=>375|138=>374|51=>262|160=>406|208=>423|206=>421|80=>311|n=>n,fun|13=>3|3=>1|4=>2|n=>n⟩
theorem C4w:Go.Proofs.Lays.n159 E9c A4m:={
 mixed:=by kernel_rfl
 f118:=Tryz.func328.trans (congrArg some (by kernel_rfl))
 f159:=Tryz.func261.trans (congrArg some (by kernel_rfl))
 f165:=Tryz.func249.trans (congrArg some (by kernel_rfl))
 f166:=Tryz.func250.trans (congrArg some (by kernel_rfl))
 f167:=Tryz.func303.trans (congrArg some (by kernel_rfl))
 f168:=Tryz.func329.trans (congrArg some (by kernel_rfl))
 f169:=Tryz.func252.trans (congrArg some (by kernel_rfl))
 f197:=Tryz.func251.trans (congrArg some (by kernel_rfl))
 f204:=Tryz.func305.trans (congrArg some (by kernel_rfl))
 f230:=Tryz.func304.trans (congrArg some (by kernel_rfl))
 f240:=Tryz.func297.trans (congrArg some (by kernel_rfl))
 f241:=Tryz.func298.trans (congrArg some (by kernel_rfl))
 f242:=Tryz.func346.trans (congrArg some (by kernel_rfl))
 f260:=Tryz.func299.trans (congrArg some (by kernel_rfl))
 f262:=Tryz.func331.trans (congrArg some (by kernel_rfl))
 f270:=Tryz.func330.trans (congrArg some (by kernel_rfl))
 f274:=Tryz.func363.trans (congrArg some (by kernel_rfl))
 f275:=Tryz.func364.trans (congrArg some (by kernel_rfl))
 f276:=Tryz.func325.trans (congrArg some (by kernel_rfl))
 f277:=Tryz.func326.trans (congrArg some (by kernel_rfl))
 f278:=Tryz.func362.trans (congrArg some (by kernel_rfl))
 f313:=Tryz.func347.trans (congrArg some (by kernel_rfl))
 t0:=Tryz.underlying0
 a0:=Tryz.isAgg0
 z0:=Tryz.sizeOf0
 v0:=Tryz.zeroValue0
 t3:=Tryz.underlying3
 a3:=Tryz.isAgg3
 z3:=Tryz.sizeOf3
 v3:=Tryz.zeroValue3
 t4:=Tryz.underlying4
 a4:=Tryz.isAgg4
 z4:=Tryz.sizeOf4
 v4:=Tryz.zeroValue4
 t5:=Tryz.underlying5
 a5:=Tryz.isAgg5
 z5:=Tryz.sizeOf5
 v5:=Tryz.zeroValue5
 t9:=Tryz.underlying9
 a9:=Tryz.isAgg9
 z9:=Tryz.sizeOf9
 v9:=Tryz.zeroValue9
 t20:=Tryz.underlying20
 a20:=Tryz.isAgg20
 z20:=Tryz.sizeOf20
 v20:=Tryz.zeroValue20
 t21:=Tryz.underlying21
 a21:=Tryz.isAgg21
 z21:=Tryz.sizeOf21
 v21:=Tryz.zeroValue21
 t37:=Tryz.underlying289
 a37:=Tryz.isAgg289
 z37:=Tryz.sizeOf289
 v37:=Tryz.zeroValue289
 t46:=Tryz.underlying214
 a46:=Tryz.isAgg214
 z46:=Tryz.sizeOf214
 v46:=Tryz.zeroValue214
 t51:=Tryz.underlying262
 a51:=Tryz.isAgg262
 z51:=Tryz.sizeOf262
 v51:=Tryz.zeroValue262
 t70:=Tryz.underlying301
 a70:=Tryz.isAgg301
 z70:=Tryz.sizeOf301
 v70:=Tryz.zeroValue301
 t72:=Tryz.underlying303
 a72:=Tryz.isAgg303
 z72:=Tryz.sizeOf303
 v72:=Tryz.zeroValue303
 t75:=Tryz.underlying306
 a75:=Tryz.isAgg306
 z75:=Tryz.sizeOf306
 v75:=Tryz.zeroValue306
 t76:=Tryz.underlying307
 a76:=Tryz.isAgg307
 z76:=Tryz.sizeOf307
 v76:=Tryz.zeroValue307
 t105:=Tryz.underlying309
 a105:=Tryz.isAgg309
 z105:=Tryz.sizeOf309
 v105:=Tryz.zeroValue309
 t107:=Tryz.underlying355
 a107:=Tryz.isAgg355
 z107:=Tryz.sizeOf355
 v107:=Tryz.zeroValue355
 t119:=Tryz.underlying372
 a119:=Tryz.isAgg372
 z119:=Tryz.sizeOf372
 t127:=Tryz.underlying351
 a127:=Tryz.isAgg351
 z127:=Tryz.sizeOf351
 v127:=Tryz.zeroValue351
 t138:=Tryz.underlying374
 a138:=Tryz.isAgg374
 z138:=Tryz.sizeOf374
 v138:=Tryz.zeroValue374
 t139:=Tryz.underlying375
 a139:=Tryz.isAgg375
 z139:=Tryz.sizeOf375
 v139:=Tryz.zeroValue375
 t160:=Tryz.underlying406
 a160:=Tryz.isAgg406
 z160:=Tryz.sizeOf406
 v160:=Tryz.zeroValue406
 t162:=Tryz.underlying392
 a162:=Tryz.isAgg392
 z162:=Tryz.sizeOf392
 v162:=Tryz.zeroValue392
 t164:=Tryz.underlying205
 a164:=Tryz.isAgg205
 z164:=Tryz.sizeOf205
 v164:=Tryz.zeroValue205
 t203:=Tryz.underlying390
 a203:=Tryz.isAgg390
 z203:=Tryz.sizeOf390
 v203:=Tryz.zeroValue390
 t206:=Tryz.underlying421
 a206:=Tryz.isAgg421
 z206:=Tryz.sizeOf421
 v206:=Tryz.zeroValue421
 t208:=Tryz.underlying423
 a208:=Tryz.isAgg423
 z208:=Tryz.sizeOf423
 v208:=Tryz.zeroValue423
 g3:=by kernel_rfl
 g4:=by kernel_rfl
 g13:=by kernel_rfl}
theorem A5u:Builder.Extra E9c A4m:={
 sizeBuilder:=by kernel_rfl
 liesBuilder:=by kernel_rfl
 t5:=Tryz.underlying5
 a5:=Tryz.isAgg5
 z5:=Tryz.sizeOf5
 v5:=Tryz.zeroValue5
 infoByte:=by kernel_rfl
 cellsByte:=by kernel_rfl
 sizeByte:=by kernel_rfl
 neB5:=by decide}
open Go.RowKit in
theorem Tryz.strings_ToLower_ascii(s:ByteArray)(w:World)(hs:s.size≤140737488355328)(hascii:∀(j:Nat)(b:UInt8),s.data.toList[j]?=some b→b.toNat<128):
 Calls E9c 261 #[.string s] w fun e w'=>e=.returned (.string ⟨(Lib.toLowerA s.data.toList).toArray⟩)∧Below w.heap.size w w':=Any.strings_ToLower_ascii C4w A5u s w hs hascii
def B2y:Go.Shelf.Ren:=⟨fun|6=>109|10=>156|11=>157|12=>158|13=>159|14=>160|24=>210|25=>211|26=>212|27=>213|28=>214|29=>215|30=>216|31=>217|32=>218|33=>219|34=>267|35=>268|36=>269|37=>270|38=>271|39=>307|n=>n,fun|20=>20|26=>163|35=>208|0=>0|37=>210|3=>3|41=>214|44=>217|49=>262|51=>264|4=>4|54=>267|53=>266|58=>234|5=>5|9=>9|60=>330|64=>334|66=>357|67=>38|17=>17|32=>205|33=>206|82=>450|12=>12|75=>444|76=>445|77=>446|78=>351|79=>447|80=>448|n=>n,fun|n=>n⟩
theorem C4u:Go.Proofs.LaysGg.n6 E9c B2y:={
 mixed:=by kernel_rfl
 f6:=Tryz.func109.trans (congrArg some (by kernel_rfl))
 f10:=Tryz.func156.trans (congrArg some (by kernel_rfl))
 f11:=Tryz.func157.trans (congrArg some (by kernel_rfl))
 f12:=Tryz.func158.trans (congrArg some (by kernel_rfl))
 f13:=Tryz.func159.trans (congrArg some (by kernel_rfl))
 f14:=Tryz.func160.trans (congrArg some (by kernel_rfl))
 f24:=Tryz.func210.trans (congrArg some (by kernel_rfl))
 f25:=Tryz.func211.trans (congrArg some (by kernel_rfl))
 f26:=Tryz.func212.trans (congrArg some (by kernel_rfl))
 f27:=Tryz.func213.trans (congrArg some (by kernel_rfl))
 f28:=Tryz.func214.trans (congrArg some (by kernel_rfl))
 f29:=Tryz.func215.trans (congrArg some (by kernel_rfl))
 f30:=Tryz.func216.trans (congrArg some (by kernel_rfl))
 f31:=Tryz.func217.trans (congrArg some (by kernel_rfl))
 f32:=Tryz.func218.trans (congrArg some (by kernel_rfl))
 f33:=Tryz.func219.trans (congrArg some (by kernel_rfl))
 f34:=Tryz.func267.trans (congrArg some (by kernel_rfl))
 f35:=Tryz.func268.trans (congrArg some (by kernel_rfl))
 f36:=Tryz.func269.trans (congrArg some (by kernel_rfl))
 f37:=Tryz.func270.trans (congrArg some (by kernel_rfl))
 f38:=Tryz.func271.trans (congrArg some (by kernel_rfl))
 f39:=Tryz.func307.trans (congrArg some (by kernel_rfl))
 t0:=Tryz.underlying0
 a0:=Tryz.isAgg0
 z0:=Tryz.sizeOf0
 v0:=Tryz.zeroValue0
 i0:=by kernel_rfl
 t3:=Tryz.underlying3
 a3:=Tryz.isAgg3
 z3:=Tryz.sizeOf3
 v3:=Tryz.zeroValue3
 i3:=by kernel_rfl
 t4:=Tryz.underlying4
 a4:=Tryz.isAgg4
 z4:=Tryz.sizeOf4
 v4:=Tryz.zeroValue4
 i4:=by kernel_rfl
 t5:=Tryz.underlying5
 a5:=Tryz.isAgg5
 z5:=Tryz.sizeOf5
 v5:=Tryz.zeroValue5
 i5:=by kernel_rfl
 t9:=Tryz.underlying9
 a9:=Tryz.isAgg9
 z9:=Tryz.sizeOf9
 v9:=Tryz.zeroValue9
 i9:=by kernel_rfl
 t12:=Tryz.underlying12
 a12:=Tryz.isAgg12
 z12:=Tryz.sizeOf12
 v12:=Tryz.zeroValue12
 i12:=by kernel_rfl
 t17:=Tryz.underlying17
 a17:=Tryz.isAgg17
 z17:=Tryz.sizeOf17
 v17:=Tryz.zeroValue17
 i17:=by kernel_rfl
 t20:=Tryz.underlying20
 a20:=Tryz.isAgg20
 z20:=Tryz.sizeOf20
 v20:=Tryz.zeroValue20
 i20:=by kernel_rfl
 t26:=Tryz.underlying163
 a26:=Tryz.isAgg163
 z26:=Tryz.sizeOf163
 v26:=Tryz.zeroValue163
 i26:=by kernel_rfl
 t32:=Tryz.underlying205
 a32:=Tryz.isAgg205
 z32:=Tryz.sizeOf205
 v32:=Tryz.zeroValue205
 i32:=by kernel_rfl
 t33:=Tryz.underlying206
 a33:=Tryz.isAgg206
 z33:=Tryz.sizeOf206
 v33:=Tryz.zeroValue206
 i33:=by kernel_rfl
 t35:=Tryz.underlying208
 a35:=Tryz.isAgg208
 z35:=Tryz.sizeOf208
 v35:=Tryz.zeroValue208
 i35:=by kernel_rfl
 t37:=Tryz.underlying210
 a37:=Tryz.isAgg210
 z37:=Tryz.sizeOf210
 v37:=Tryz.zeroValue210
 i37:=by kernel_rfl
 t41:=Tryz.underlying214
 a41:=Tryz.isAgg214
 z41:=Tryz.sizeOf214
 v41:=Tryz.zeroValue214
 i41:=by kernel_rfl
 t44:=Tryz.underlying217
 a44:=Tryz.isAgg217
 z44:=Tryz.sizeOf217
 v44:=Tryz.zeroValue217
 i44:=by kernel_rfl
 t49:=Tryz.underlying262
 a49:=Tryz.isAgg262
 z49:=Tryz.sizeOf262
 v49:=Tryz.zeroValue262
 i49:=by kernel_rfl
 t51:=Tryz.underlying264
 a51:=Tryz.isAgg264
 z51:=Tryz.sizeOf264
 v51:=Tryz.zeroValue264
 i51:=by kernel_rfl
 t53:=Tryz.underlying266
 a53:=Tryz.isAgg266
 z53:=Tryz.sizeOf266
 v53:=Tryz.zeroValue266
 i53:=by kernel_rfl
 t54:=Tryz.underlying267
 a54:=Tryz.isAgg267
 z54:=Tryz.sizeOf267
 v54:=Tryz.zeroValue267
 i54:=by kernel_rfl
 t58:=Tryz.underlying234
 a58:=Tryz.isAgg234
 z58:=Tryz.sizeOf234
 v58:=Tryz.zeroValue234
 i58:=by kernel_rfl
 t60:=Tryz.underlying330
 a60:=Tryz.isAgg330
 z60:=Tryz.sizeOf330
 v60:=Tryz.zeroValue330
 i60:=by kernel_rfl
 t64:=Tryz.underlying334
 a64:=Tryz.isAgg334
 z64:=Tryz.sizeOf334
 v64:=Tryz.zeroValue334
 i64:=by kernel_rfl
 t66:=Tryz.underlying357
 a66:=Tryz.isAgg357
 z66:=Tryz.sizeOf357
 v66:=Tryz.zeroValue357
 i66:=by kernel_rfl
 t67:=Tryz.underlying38
 a67:=Tryz.isAgg38
 z67:=Tryz.sizeOf38
 v67:=Tryz.zeroValue38
 i67:=by kernel_rfl
 t75:=Tryz.underlying444
 a75:=Tryz.isAgg444
 z75:=Tryz.sizeOf444
 v75:=Tryz.zeroValue444
 i75:=by kernel_rfl
 t76:=Tryz.underlying445
 a76:=Tryz.isAgg445
 z76:=Tryz.sizeOf445
 v76:=Tryz.zeroValue445
 i76:=by kernel_rfl
 t77:=Tryz.underlying446
 a77:=Tryz.isAgg446
 z77:=Tryz.sizeOf446
 v77:=Tryz.zeroValue446
 i77:=by kernel_rfl
 t78:=Tryz.underlying351
 a78:=Tryz.isAgg351
 z78:=Tryz.sizeOf351
 v78:=Tryz.zeroValue351
 i78:=by kernel_rfl
 t79:=Tryz.underlying447
 a79:=Tryz.isAgg447
 z79:=Tryz.sizeOf447
 v79:=Tryz.zeroValue447
 i79:=by kernel_rfl
 t80:=Tryz.underlying448
 a80:=Tryz.isAgg448
 z80:=Tryz.sizeOf448
 v80:=Tryz.zeroValue448
 i80:=by kernel_rfl
 t82:=Tryz.underlying450
 a82:=Tryz.isAgg450
 z82:=Tryz.sizeOf450
 v82:=Tryz.zeroValue450
 i82:=by kernel_rfl}
end Go.Proofs
