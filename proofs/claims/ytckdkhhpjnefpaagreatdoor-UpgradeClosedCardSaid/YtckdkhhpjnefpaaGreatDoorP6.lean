/- What the proof leans on. No condition. -/
import Derived.Test.YtckdkhhpjnefpaaGreatDoorP5
set_option maxHeartbeats 4000000
set_option linter.unusedVariables false
set_option linter.deprecated false
set_option linter.unusedSimpArgs false
set_option linter.unusedSectionVars false
open Go.Proofs.Tryz renaming prog→E9c
open List renaming toArray→E9d,mem_of_getElem?→E9g,getElem?_append_left→E9t,getElem?_eq_getElem→E9v,perm_append_comm_assoc→E9x,append_of_mem→F0z,mem_map→F1k,getElem?_eq_some_iff→E9e,length_append→E9h,getElem?_append_right→F0r,getElem?_drop→F1e,drop_drop→F1u,eq_nil_of_length_eq_zero→F0t,length_cons→F1h,mem_iff_getElem?→F0j,append_assoc→F0p,map_cons→F0w,replicate→E9y,mem_cons→F0b,mem_cons_self→F0g,getElem?_set_ne→F0q,mem_append→E9r,mem_cons_of_mem→E9u,mem_of_mem_take→F1d,mem_append_left→F1p
open Nat renaming zero_le→E9k,zero_add→F1b,lt_succ_iff_lt_or_eq→F0m,add_mul→F1f,le_refl→E9q,le_of_ble_eq_true→E9w
open Go.Value renaming string→E9z,bool→F0x,int→F0u,slice→F0h
open Go.Instr renaming sliceBounds→F0v,sliceAt→F1a,sliceBound→F1c,slice→F1v
open ByteArray renaming empty→E9f
open Go.Obj renaming cells→E9n
open Option renaming map_some→F1q
open UInt8 renaming ofNat→F0d
namespace Go.Eng
open Go
theorem C0f{P:Program}{T:F7}(hT:T.ok P){g:FuncId}{fn:Func}{c:Code}{args:List Value}{i:Imm}{L:SH}{G3:Value→Imm→SH→Prop}{n a t r s u:Nat}
 (hf:P.funcs[g]?=some fn) (hb:fn.body=some c) (hn:fn.ntmps=n) (hl:args.length≤n) (hres:fn.results=#[.tmp r,.tmp s,.cell a t,.cell u t])
 (h:CS P n c (A6g 0 args) i L (A6k fun f i' L'=>∃b1 cs1 t1 fz1 v1 b2 cs2 t2 fz2 v2,ev n f (.tmp a)=.pointer (some ⟨b1,0,none⟩)∧Has i' L' b1 (.cells (E9d cs1) t1 fz1)∧ldV T t 0 cs1=some v1∧ev n f (.tmp u)=.pointer (some ⟨b2,0,none⟩)∧Has i' L' b2 (.cells (E9d cs2) t2 fz2)∧ldV T t 0 cs2=some v2∧G3 (.tuple #[ev n f (.tmp r),ev n f (.tmp s),v1,v2]) i' L')):E6 P g args i L G3:=
 E6.body hf hb hn hl _ (fun f i' L' w hs ⟨b1,cs1,t1,fz1,v1,b2,cs2,t2,fz2,v2,h1,h2,h3,k1,k2,k3,h4⟩=>by
  have h5:=A7q hT (h2.block hs) h3;have h6:(loadVar t ⟨b1,0,none⟩).run P w=.ok v1 w:=by simpa [Instr.loadAt,Instr.sureAddr] using h5
  have k5:=A7q hT (k2.block hs) k3;have k6:(loadVar t ⟨b2,0,none⟩).run P w=.ok v2 w:=by simpa [Instr.loadAt,Instr.sureAddr] using k5
  refine⟨_,?_,h4⟩;simp only[results,hres];have h8:(ofF n f).tmps[a]?.getD undef=.pointer (some ⟨b1,0,none⟩):=by rw[evt];exact h1
  have k8:(ofF n f).tmps[u]?.getD undef=.pointer (some ⟨b2,0,none⟩):=by rw[evt];exact k1
  have h9:=evt n f r;have h10:=evt n f s;simp[h8,k8,asAddr,h6,k6,h9,h10]) h
end Go.Eng
namespace Go.Proofs.YtckdkhhpjnefpaaGreatDoor
open Go Go.Eng
theorem A3c{α:Type}:∀(l1 l2:List α),(∀f:α→Nat,(l1.map f).sum=(l2.map f).sum)→l1.Perm l2
 |[],l2,h=>by
  cases l2 with
  |nil=>exact .nil
  |cons a l=>have:=h (fun _=>1);simp at this;omega
 |a::l,l2,h=>by
  classical
  have hm:a∈l2:=by
   apply Decidable.byContradiction;intro hn;have h1:=h (fun x=>if x=a then 1 else 0)
   have h2:(l2.map (fun x=>if x=a then 1 else 0)).sum=0:=by
    rw[List.sum_eq_zero_iff_forall_eq_nat];intro x hx;obtain⟨y,hy,rfl⟩:=F1k.1 hx;have hya:y≠a:=fun e=>hn (e▸hy)
    simp[hya]
   rw[h2] at h1;simp at h1
  obtain⟨A,B,rfl⟩:=F0z hm
  refine(List.Perm.cons a (A3c l (A++B) fun f=>?_)).trans List.perm_middle.symm
  have:=h f
  simp at this⊢;omega
theorem C9d:∀(fs:List Fil)(j:Nat)(f:Fil)(tx:ByteArray),fs[j]?=some f→Q4 (fs.set j ⟨f.name,tx⟩)=(Q4 fs).set (j*2+1) (.string tx)
 |[],j,f,tx,h=>by simp at h
 |a::l,0,f,tx,h=>by
  simp at h;subst h;rfl
 |a::l,j+1,f,tx,h=>by
  have ih:=C9d l j f tx (by simpa using h);show N6 a++Q4 (l.set j ⟨f.name,tx⟩)=(N6 a++Q4 l).set ((j+1)*2+1) (.string tx);rw[ih,show(j+1)*2+1=(j*2+1)+1+1 by omega];rfl
theorem rules_t(tp:Nat)(lv:Value)(a:Int)(i:Imm)(L:SH)(hg:Glb i)(hl:I5 i lv)(ha:0≤a∧a≤400000000000):
 E6 E9c 6 [.pointer (some ⟨tp,0,none⟩)] i ((tp,B5 lv a)::L) fun v i' L'=>(∃(ra rb:Value)(ls lu:List Value),v=.tuple #[ra,rb,.agg ls.toArray,.agg lu.toArray]∧R7 i' 512 ra∧R7 i' 512 rb∧A8y i' ls∧A8y i' lu)∧∃a',0≤a'∧a'≤a+1000000∧L'=(tp,B5 lv a')::L:=by
 refine E6.state (K:=fun v i' L'=>∃(p q r:Nat×Obj)(a':Int),(∃(ra rb:Value)(ls lu:List Value),v=.tuple #[ra,rb,.agg ls.toArray,.agg lu.toArray]∧R7 i' 512 ra∧R7 i' 512 rb∧A8y i' ls∧A8y i' lu)∧0≤a'∧a'≤a+1000000∧L'=p::(tp,B5 lv a')::q::r::L) ?_ ?_;rotate_left
 ·rintro v i' L' w _ hs ⟨p,q,r,a',h1,h0a,h0b,rfl⟩;exact⟨i',_,Imm.le.refl i',St.dropMid (A:=[(tp,B5 lv a')]) (G:=[q,r]) hs.drop,h1,a',h0a,h0b,rfl⟩
 refine C0f A1 Tryz.func6 rfl rfl (by simp) rfl ?_;repeat' (first|refine zn ?_|(refine zr 0 ?_;refine zp rfl ?_;refine zp rfl ?_;refine C1 A1 rfl rfl (fun r4=>?_);(all_goals refine C1 A1 rfl rfl (fun r5=>?_));(all_goals refine zn ?_)))
 refine zr 1 ?_;refine zp rfl ?_;refine J3 (E9x [_,_] [_] L) ?_;refine A7 (Setup_t tp lv a _ _ hg hl (by omega)) rfl (by kernel_rfl) rfl ?_;rintro _ i _ hi ⟨⟨l,rfl,hset⟩,a1,ha1,ha2,rfl⟩;replace hg:=hg.le hi;replace hl:=hl.le hi;obtain⟨d,h,m,b,o,k,e,p,lim,rfl,hd,hh,hm,hb,ho,hk,he,hp⟩:=id hset;obtain⟨nd,vd,⟨ad,cd,rfl,hdl,hdc⟩,hnd,hdv⟩:=hd;obtain⟨nh,vh,⟨ah,ch,rfl,hhc⟩,hnh,hhv⟩:=hh;obtain⟨nm,vm,⟨am,cm,rfl,hmc⟩,hnm,hmv⟩:=hm;obtain⟨ab,nb,cb,rfl,hb⟩:=hb;obtain⟨ao,no,co,rfl,ho⟩:=ho;obtain⟨ak,nk,ck,rfl,hk⟩:=hk;obtain⟨ae,ne,ce,rfl,he⟩:=he;obtain⟨sp,⟨ap,cp,rfl,hpc⟩,hnp,hpv⟩:=hp;refine C1 A1 rfl rfl (fun bs=>?_);refine zw 0 rfl rfl rfl rfl ?_;refine M3 (fun i2 hi2 gs=>?_);refine zn ?_;refine zn ?_;replace hg:=hg.le hi2;replace hl:=hl.le hi2;replace hset:=hset.le hi2;have hz:0≤a1∧a1≤450000000000:=by omega
 have hz2:a1≤a+30000:=by omega
 clear hdc hdv hhc hhv hmc hmv hpc hpv ha1 ha2;repeat' (first|refine zn ?_|(refine zr 2 ?_;((refine D4 (B0 A1 rfl (Has.imm gs) rfl) rfl ?_));(all_goals refine C1 A1 rfl rfl (fun bu=>?_));(all_goals(refine zw 0 rfl rfl rfl rfl ?_));(all_goals refine zn ?_))|(refine zr 3 ?_;refine zp rfl ?_;(refine zw 0 rfl rfl rfl rfl ?_);refine zn ?_)|(refine zr 4 ?_;refine zp rfl ?_;refine zn ?_))
 refine B1 [0,4,5,6,7,8] (fun m vs' i' L9=>∃(q cu:Nat)(au:Option Addr)(vs:List Value)(Oo R:SH),m=nd-q∧q≤nd∧vs'=[.pointer (some ⟨tp,0,none⟩),.pointer (some ⟨r4,0,none⟩),.pointer (some ⟨r5,0,none⟩),.pointer (some ⟨bs,0,none⟩),.pointer (some ⟨bu,0,none⟩),.int .i64 (q:Int)]∧J2 60 (.slice au q cu) 1 q vs Oo∧OLs vs R∧Glb i'∧I5 i' lv∧A8y i' [.slice ad nd cd,.slice ah nh ch,.slice am nm cm,.slice ab nb cb,.slice ao no co,.slice ak nk ck,.slice ae ne ce,.slice ap sp.length cp,.int .i64 lim]∧i'.blk bs=some (.cells (E9d [.slice ad nd cd,.slice ah nh ch,.slice am nm cm,.slice ab nb cb,.slice ao no co,.slice ak nk ck,.slice ae ne ce,.slice ap sp.length cp,.int .i64 lim]) 35 (0,0))∧L9=(bu,H2 (.slice au q cu) (.slice ah nh ch) (.slice am nm cm) (.slice ab nb cb) (.slice ao no co) (.slice ak nk ck) (.slice ae ne ce) (.slice ap sp.length cp) (.int .i64 lim))::(tp,B5 lv a1)::(r5,H2 A4 A4 A4 A4 A4 A4 A4 A4 (.int .i64 0))::(r4,H2 A4 A4 A4 A4 A4 A4 A4 A4 (.int .i64 0))::(Oo++(R++L))) _ ⟨0,_,_,[],[],[],rfl,E9k _,rfl,J2.nil _ _,rfl,hg,hl,hset,gs,rfl⟩ ?_;clear hg hl hset gs;rintro m g vs' i _ hi ⟨q,cu,au,vs,Oo,R,rfl,hq,rfl,hO,hR,hg,hl,hset,gs,rfl⟩;by_cases hlt:q<nd
 ·obtain⟨d9,h9,m9,b9,o9,k9,e9,p9,lim9,hse,⟨nd',vd',hds,hnd',hdv⟩,-⟩:=id hset;cases hse;obtain⟨_,_,e0,_⟩:=id hds;cases e0
  obtain⟨d2,hd2⟩:∃d2,vd'[q]?=some d2:=by
   obtain⟨_,_,_,hl9,_⟩:=hds;exact⟨_,E9v (by omega)⟩
  obtain⟨fs,hfs,hfo,hfc⟩:=hdv d2 (E9g hd2);obtain⟨aod,capd,rfl,_⟩:=id hfs;obtain⟨-,b1,o1,c1,t1,z1,p1,e1,g1,q1⟩:=Z7 hds hd2;cases e1;have hf3:=hfo.1;repeat' (first|refine zp rfl ?_|refine zn ?_|refine A2 rfl ?_|refine zr 5 ?_|refine D4 (B0 A1 rfl (Has.imm gs) rfl) rfl ?_|refine zt rfl rfl (by omega) rfl ?_)
  refine H8 J9 [0,1,2,3,4,5,6,7,8,9] [10,11] [7,8,9] (fun L9=>∃X,L9=(bu,H2 (.slice au q cu) (.slice ah nh ch) (.slice am nm cm) (.slice ab nb cb) (.slice ao no co) (.slice ak nk ck) (.slice ae ne ce) (.slice ap sp.length cp) (.int .i64 lim))::X) (stE fun L9=>L9=(bu,H2 (.slice au q cu) (.slice ah nh ch) (.slice am nm cm) (.slice ab nb cb) (.slice ao no co) (.slice ak nk ck) (.slice ae ne ce) (.slice ap sp.length cp) (.int .i64 lim))::(tp,B5 lv a1)::(r5,H2 A4 A4 A4 A4 A4 A4 A4 A4 (.int .i64 0))::(r4,H2 A4 A4 A4 A4 A4 A4 A4 A4 (.int .i64 0))::(Oo++(R++L))) (by kernel_rfl) (by decide) rfl ⟨_,rfl⟩ (G7 _) rfl ?_;refine zg rfl rfl rfl ?_;refine D7 (fun i' hi L' hL=>by obtain⟨X,rfl⟩:=hL;exact B0 A1 rfl (Has.own 0 rfl) rfl) rfl rfl rfl rfl rfl rfl ?_;refine zg rfl rfl rfl ?_;refine D7 (fun i' hi L' hL=>B0 A1 rfl (Has.imm (hi.blk _ _ gs)) rfl) rfl rfl rfl rfl rfl rfl ?_;refine zg rfl rfl rfl ?_;refine E7 (A9 A1 rfl rfl rfl (by omega)) rfl rfl rfl rfl rfl rfl ?_;refine D7 (fun i' hi L' hL=>B2 A1 rfl (Has.imm (hi.blk _ _ g1)) rfl q1) rfl rfl rfl rfl rfl rfl ?_;refine G0 (fun _ _=>True) ⟨[35],fun _ vs9 L9=>∃(a7:Option Addr)(c7:Nat)(O7:SH),vs9=[.slice a7 fs.length c7]∧D1x (.slice a7 fs.length c7) fs O7∧L9=(bu,H2 (.slice au q cu) (.slice ah nh ch) (.slice am nm cm) (.slice ab nb cb) (.slice ao no co) (.slice ak nk ck) (.slice ae ne ce) (.slice ap sp.length cp) (.int .i64 lim))::(O7++((tp,B5 lv a1)::(r5,H2 A4 A4 A4 A4 A4 A4 A4 A4 (.int .i64 0))::(r4,H2 A4 A4 A4 A4 A4 A4 A4 A4 (.int .i64 0))::(Oo++(R++L))))⟩ (fun _ _ _ _ _=>trivial) (fun _ _ _ _ _ h=>h) rfl rfl rfl rfl rfl rfl (fun i' hi L' _ vs9 _ hm=>?_) ?_
  ·subst hm;refine fun _=>⟨rfl,?_⟩
   refine P3.mono (D8 (O:=[]) [(bu,H2 (.slice au q cu) (.slice ah nh ch) (.slice am nm cm) (.slice ab nb cb) (.slice ao no co) (.slice ak nk ck) (.slice ae ne ce) (.slice ap sp.length cp) (.int .i64 lim))] A1 (sz:=2) (bytes:=32) (k:=0) (m:=fs.length) rfl rfl (J2.nil 64 2) ((hfs.le hi).rd _) ⟨_,rfl,rfl⟩ ⟨_,rfl,rfl,rfl⟩ (by omega) (C9e fs) (by omega) (by omega)) ?_;rintro v' i3 L3 _ ⟨O7,⟨a7,c7,rfl,h1⟩,rfl⟩;exact⟨⟨_,rfl⟩,trivial,a7,c7,O7,by simp,⟨by simpa using h1,hfo⟩,rfl⟩
  refine G0 (fun _ _=>True) ⟨[36],fun i' vs9 L9=>∃(b8:Nat)(a7:Option Addr)(c7:Nat)(O7:SH),vs9=[.slice (some ⟨b8,0,none⟩) 1 1]∧Sl i' (.slice (some ⟨b8,0,none⟩) 1 1) 1 1 [.slice a7 fs.length c7]∧D1x (.slice a7 fs.length c7) fs O7∧L9=(bu,H2 (.slice au q cu) (.slice ah nh ch) (.slice am nm cm) (.slice ab nb cb) (.slice ao no co) (.slice ak nk ck) (.slice ae ne ce) (.slice ap sp.length cp) (.int .i64 lim))::(O7++((tp,B5 lv a1)::(r5,H2 A4 A4 A4 A4 A4 A4 A4 A4 (.int .i64 0))::(r4,H2 A4 A4 A4 A4 A4 A4 A4 A4 (.int .i64 0))::(Oo++(R++L))))⟩ (fun _ _ _ _ _=>trivial) (fun _ _ hi _ _ ⟨b,a,c,d,h1,h2,h3⟩=>⟨b,a,c,d,h1,h2.le hi,h3⟩) rfl rfl rfl rfl rfl rfl (fun i' hi L' _ vs9 _ hm=>?_) ?_
  ·obtain⟨a7,c7,O7,rfl,hD7,rfl⟩:=hm;rintro w-hw;have hwv:w=.slice a7 fs.length c7:=hw 0 _ _ rfl rfl rfl;subst hwv;refine⟨rfl,P3.mono (H9 A1 (sz:=1) (cs:=[.slice a7 fs.length c7]) (J6 rfl rfl rfl rfl (by decide) (by decide) rfl) rfl) ?_⟩;rintro v' i3 L3 _ ⟨rfl,b8,rfl,h8⟩;exact⟨⟨_,rfl⟩,trivial,b8,a7,c7,O7,rfl,h8,hD7,rfl⟩
  refine G0 (fun _ _=>True) ⟨[37],fun _ vs9 L9=>∃(a9:Option Addr)(c9:Nat)(v7:Value)(O7 O9:SH),vs9=[.slice a9 (q+1) c9]∧J2 60 (.slice a9 (q+1) c9) 1 (q+1) (vs++[v7]) O9∧D1x v7 fs O7∧L9=(bu,H2 (.slice au q cu) (.slice ah nh ch) (.slice am nm cm) (.slice ab nb cb) (.slice ao no co) (.slice ak nk ck) (.slice ae ne ce) (.slice ap sp.length cp) (.int .i64 lim))::(tp,B5 lv a1)::(r5,H2 A4 A4 A4 A4 A4 A4 A4 A4 (.int .i64 0))::(r4,H2 A4 A4 A4 A4 A4 A4 A4 A4 (.int .i64 0))::(O7++(O9++(R++L)))⟩ (fun _ _ _ _ _=>trivial) (fun _ _ _ _ _ h=>h) rfl rfl rfl rfl rfl rfl (fun i' hi L' _ vs9 _ hm=>?_) ?_
  ·obtain⟨b8,a7,c7,O7,rfl,h8,hD7,rfl⟩:=hm;rintro w-hw;have hwv:w=.slice (some ⟨b8,0,none⟩) 1 1:=hw 0 _ _ rfl rfl rfl;subst hwv;refine⟨rfl,B8g (List.Perm.cons _ (E9x O7 [_,_,_] _)) ?_⟩;refine P3.mono (D8 (_::_::_::_::O7) A1 (sz:=1) (bytes:=24) (m:=1) rfl rfl hO (h8.rd _) ⟨_,rfl,rfl⟩ ⟨_,rfl,rfl,rfl⟩ (by omega) (F4 rfl) (by omega) (by omega)) ?_;rintro v' i3 L3 _ ⟨O9,⟨a9,c9,rfl,h1⟩,rfl⟩;exact⟨⟨_,rfl⟩,trivial,a9,c9,_,O7,O9,rfl,h1,hD7,rfl⟩
  refine I8 rfl rfl (fun i2 L2 vs9 hi2 _ _ hm=>?_);obtain⟨a9,c9,v7,O7,O9,rfl,hO9,hD7,rfl⟩:=hm;rintro w-w1-w2-hw;have hwv:w=.slice a9 (q+1) c9:=hw 0 _ _ rfl rfl;subst hwv;refine zp rfl ?_;refine zw 0 rfl rfl rfl rfl ?_;refine J3 (List.Perm.cons _ (List.Perm.cons _ (List.Perm.cons _ (permD O7 O9 R L _)))) ?_;refine zn ?_;repeat' (first|refine zp rfl ?_|refine zn ?_|refine A3 ?_|refine zd rfl rfl (by omega) rfl ?_)
  exact⟨nd-(q+1),by omega,q+1,c9,a9,vs++[v7],O9,R++O7,rfl,by omega,rfl,hO9,hR.snoc hD7,hg.le hi2,hl.le hi2,hset.le hi2,hi2.blk _ _ gs,rfl⟩
 ·have hqd:q≤2:=by omega
  repeat' (first|refine zp rfl ?_|refine zn ?_|refine A0 rfl ?_|refine zs [5,8] rfl ?_|refine D4 (B0 A1 rfl (Has.imm gs) rfl) rfl ?_|refine zf rfl rfl (by omega) rfl ?_|(refine A7 (J7 _ 1 _ _ _ _ _ hl rfl (by omega) (by omega)) rfl (by kernel_rfl) rfl ?_;rintro _ _ _-⟨x,rfl,⟨hx0,hx1⟩,rfl,rfl⟩))
  have hx2:x≤2:=by omega
  refine B1 [0,4,5,6,7,9] (fun m vs' i' L9=>∃(k a2:Int)(n cu:Nat)(au:Option Addr)(vs:List Value)(Oo R:SH),m=k.toNat∧0≤k∧k≤2∧n≤2∧a1≤a2∧a2≤a1+1+30000*(2-k)∧vs'=[.pointer (some ⟨tp,0,none⟩),.pointer (some ⟨r4,0,none⟩),.pointer (some ⟨r5,0,none⟩),.pointer (some ⟨bs,0,none⟩),.pointer (some ⟨bu,0,none⟩),.int .i64 k]∧J2 60 (.slice au n cu) 1 n vs Oo∧OLs vs R∧Glb i'∧I5 i' lv∧A8y i' [.slice ad nd cd,.slice ah nh ch,.slice am nm cm,.slice ab nb cb,.slice ao no co,.slice ak nk ck,.slice ae ne ce,.slice ap sp.length cp,.int .i64 lim]∧i'.blk bs=some (.cells (E9d [.slice ad nd cd,.slice ah nh ch,.slice am nm cm,.slice ab nb cb,.slice ao no co,.slice ak nk ck,.slice ae ne ce,.slice ap sp.length cp,.int .i64 lim]) 35 (0,0))∧L9=(bu,H2 (.slice au n cu) (.slice ah nh ch) (.slice am nm cm) (.slice ab nb cb) (.slice ao no co) (.slice ak nk ck) (.slice ae ne ce) (.slice ap sp.length cp) (.int .i64 lim))::(tp,B5 lv a2)::(r5,H2 A4 A4 A4 A4 A4 A4 A4 A4 (.int .i64 0))::(r4,H2 A4 A4 A4 A4 A4 A4 A4 A4 (.int .i64 0))::(Oo++(R++L))) _ ⟨_,_,q,_,_,_,_,_,rfl,hx0,hx2,hqd,by omega,by omega,rfl,hO,hR,hg,hl,hset,gs,rfl⟩ ?_;clear hg hl hset gs hO hR hx0 hx1;rintro m g vs' i _ hi ⟨k,a2,n,cu,au,vs,Oo,R,rfl,hk0,hk2,hn,ha21,ha22,rfl,hO,hR,hg,hl,hset,gs,rfl⟩;by_cases hlt2:0<k
  ·by_cases hn0:0<n
   ·obtain⟨hcl,⟨hv0,hn9,_⟩|⟨g0,c9,sp9,hv0,hcap9,hlen9,rfl⟩⟩:=id hO
    ·omega
    cases hv0;repeat' (first|refine zp rfl ?_|refine zn ?_|refine A2 rfl ?_|refine zr 9 ?_|refine A6 (J4 rfl rfl (by omega)) rfl ?_|refine zo 0 rfl rfl rfl rfl ?_)
    refine zr 11 ?_;iterate 2 refine zp rfl ?_
    refine zo 0 rfl rfl rfl rfl ?_
    (all_goals(refine zp rfl ?_))
    refine A7 (J7 _ 1 _ _ _ _ _ hl rfl (by omega) (by omega)) rfl (by kernel_rfl) rfl ?_;rintro _ _ _-⟨d9,rfl,⟨hd0,hd1⟩,rfl,rfl⟩;refine zp rfl ?_;refine zn ?_;refine zn ?_;obtain⟨v2,hv2⟩:=zi vs d9.toNat (by omega)
    have q2:(vs++sp9)[0+d9.toNat*1+0]?=some v2:=by
     rw[F1b,Nat.mul_one,Nat.add_zero,E9t (by omega)];exact hv2
    obtain⟨A,O2,B,fs,hD,rfl,hback⟩:=hR.at hv2;obtain⟨a9,c2,rfl⟩:=hD.1.shape;have hf3:=hD.2.1;repeat' (first|refine zp rfl ?_|refine zn ?_|refine A2 rfl ?_|refine A0 rfl ?_|refine zr 12 ?_|refine zo 0 rfl rfl rfl rfl ?_|refine zx rfl rfl rfl (by omega) rfl ?_|refine D4 (B2 A1 rfl (Has.own 4 rfl) rfl q2) rfl ?_|refine H0 rfl rfl rfl (fun h=>?_) (fun h=>?_)|(refine A7 (J7 _ 1 _ _ _ _ _ hl rfl (by omega) (by omega)) rfl (by kernel_rfl) rfl ?_;rintro _ _ _-⟨x,rfl,⟨hx0,hx1⟩,rfl,rfl⟩))
    ·obtain⟨hfl,⟨hv1,hf0,_⟩|⟨g2,c3,sp2,hv1,hcap3,hlen3,rfl⟩⟩:=id hD.1
     ·omega
     cases hv1;refine F9 J9 [0,1,2,3,4,5,6,7,8,9,10,11,12,13,14] [15,16,17] [12,14] (fun L9=>∃t9,L9=(bu,H2 (.slice (some ⟨g0,0,none⟩) n cu) (.slice ah nh ch) (.slice am nm cm) (.slice ab nb cb) (.slice ao no co) (.slice ak nk ck) (.slice ae ne ce) (.slice ap sp.length cp) (.int .i64 lim))::(tp,B5 lv t9)::(r5,H2 A4 A4 A4 A4 A4 A4 A4 A4 (.int .i64 0))::(r4,H2 A4 A4 A4 A4 A4 A4 A4 A4 (.int .i64 0))::([(g0,.cells (vs++sp9).toArray 60 (0,0))]++((A++([(g2,.cells (Q4 fs++sp2).toArray 64 (0,0))]++B))++L))) (fun L9=>L9=(bu,H2 (.slice (some ⟨g0,0,none⟩) n cu) (.slice ah nh ch) (.slice am nm cm) (.slice ab nb cb) (.slice ao no co) (.slice ak nk ck) (.slice ae ne ce) (.slice ap sp.length cp) (.int .i64 lim))::(tp,B5 lv (a2+1+1))::(r5,H2 A4 A4 A4 A4 A4 A4 A4 A4 (.int .i64 0))::(r4,H2 A4 A4 A4 A4 A4 A4 A4 A4 (.int .i64 0))::([(g0,.cells (vs++sp9).toArray 60 (0,0))]++((A++([(g2,.cells (Q4 fs++sp2).toArray 64 (0,0))]++B))++L))) (by kernel_rfl) (by decide) rfl ⟨_,rfl⟩ rfl ?_;refine zg rfl rfl rfl ?_;refine D7 (fun i' hi L' hL=>by obtain⟨X,rfl⟩:=hL;exact B0 A1 rfl (Has.own 0 rfl) rfl) rfl rfl rfl rfl rfl rfl ?_;refine zg rfl rfl rfl ?_;refine E7 (A9 A1 rfl rfl rfl (by omega)) rfl rfl rfl rfl rfl rfl ?_;refine D7 (fun i' hi L' hL=>by obtain⟨X,rfl⟩:=hL;exact B2 A1 rfl (Has.own 4 rfl) rfl q2) rfl rfl rfl rfl rfl rfl ?_;iterate 2 refine zg rfl rfl rfl ?_
     refine D7 (fun i' hi L' hL=>by obtain⟨X,rfl⟩:=hL;exact B0 A1 rfl (Has.own 0 rfl) rfl) rfl rfl rfl rfl rfl rfl ?_;refine zg rfl rfl rfl ?_;refine E7 (A9 A1 rfl rfl rfl (by omega)) rfl rfl rfl rfl rfl rfl ?_;refine D7 (fun i' hi L' hL=>by obtain⟨X,rfl⟩:=hL;exact B2 A1 rfl (Has.own 4 rfl) rfl q2) rfl rfl rfl rfl rfl rfl ?_;refine zg rfl rfl rfl ?_;refine I6 (fun _ v=>∃y,v=.int .i64 y∧A9w fs.length y) (fun L9=>L9=(bu,H2 (.slice (some ⟨g0,0,none⟩) n cu) (.slice ah nh ch) (.slice am nm cm) (.slice ab nb cb) (.slice ao no co) (.slice ak nk ck) (.slice ae ne ce) (.slice ap sp.length cp) (.int .i64 lim))::(tp,B5 lv (a2+1+1+1))::(r5,H2 A4 A4 A4 A4 A4 A4 A4 A4 (.int .i64 0))::(r4,H2 A4 A4 A4 A4 A4 A4 A4 A4 (.int .i64 0))::([(g0,.cells (vs++sp9).toArray 60 (0,0))]++((A++([(g2,.cells (Q4 fs++sp2).toArray 64 (0,0))]++B))++L))) (A9w.mono _) rfl rfl rfl rfl (fun i2 hi2 L' _ hA=>⟨rfl,by subst hA;exact D2 (by kernel_rfl) rfl (C3e [_] tp lv _ _ i2 _ (hl.le hi2) (by omega) (by omega)) (fun _ _ _ _ ⟨y,h1,h2,h3,h4⟩=>⟨⟨_,h4⟩,⟨y,h1,h2⟩,h4⟩)⟩) ?_;refine zg rfl rfl rfl ?_;refine I6 (fun _ v=>∃s,v=.string s∧s.size≤10000) (fun L9=>∃t9,a2≤t9∧t9≤a2+3000∧L9=(bu,H2 (.slice (some ⟨g0,0,none⟩) n cu) (.slice ah nh ch) (.slice am nm cm) (.slice ab nb cb) (.slice ao no co) (.slice ak nk ck) (.slice ae ne ce) (.slice ap sp.length cp) (.int .i64 lim))::(tp,B5 lv t9)::(r5,H2 A4 A4 A4 A4 A4 A4 A4 A4 (.int .i64 0))::(r4,H2 A4 A4 A4 A4 A4 A4 A4 A4 (.int .i64 0))::([(g0,.cells (vs++sp9).toArray 60 (0,0))]++((A++([(g2,.cells (Q4 fs++sp2).toArray 64 (0,0))]++B))++L))) (StrLe.mono 10000) rfl rfl rfl rfl (fun i2 hi2 L' _ hA=>⟨rfl,by subst hA;exact D2 (by kernel_rfl) rfl (C7w [_] _ (fun L=>C4j tp lv _ 3 i2 L (hg.le hi2) (hl.le hi2) (by omega) (by omega))) (fun _ _ _ _ ⟨h1,a',h3,h4,h5⟩=>⟨⟨_,h5⟩,h1,a',by omega,by omega,h5⟩)⟩) ?_;refine G1 rfl rfl (fun i2 L2 hi2 _ hA=>?_)
     obtain⟨t9,ht1,ht2,rfl⟩:=hA;rintro _ ⟨tx,rfl,htx⟩ _ ⟨y,rfl,hy0,hy1⟩;have hy:0≤y∧y<fs.length:=by omega
     obtain⟨fy,hfy⟩:=zi fs y.toNat (by omega);have hfyo:=hD.2.2 fy (E9g hfy);refine zx rfl rfl rfl (by omega) rfl ?_;refine zp rfl ?_;refine J3 (List.Perm.of_eq (show _=((bu,H2 (.slice (some ⟨g0,0,none⟩) n cu) (.slice ah nh ch) (.slice am nm cm) (.slice ab nb cb) (.slice ao no co) (.slice ak nk ck) (.slice ae ne ce) (.slice ap sp.length cp) (.int .i64 lim))::(tp,B5 lv t9)::(r5,H2 A4 A4 A4 A4 A4 A4 A4 A4 (.int .i64 0))::(r4,H2 A4 A4 A4 A4 A4 A4 A4 A4 (.int .i64 0))::(g0,.cells (vs++sp9).toArray 60 (0,0))::A)++([(g2,.cells (Q4 fs++sp2).toArray 64 (0,0))]++(B++L)) by simp)) ?_;refine H7 (A5g ((bu,H2 (.slice (some ⟨g0,0,none⟩) n cu) (.slice ah nh ch) (.slice am nm cm) (.slice ab nb cb) (.slice ao no co) (.slice ak nk ck) (.slice ae ne ce) (.slice ap sp.length cp) (.int .i64 lim))::(tp,B5 lv t9)::(r5,H2 A4 A4 A4 A4 A4 A4 A4 A4 (.int .i64 0))::(r4,H2 A4 A4 A4 A4 A4 A4 A4 A4 (.int .i64 0))::(g0,.cells (vs++sp9).toArray 60 (0,0))::A) (off:=0+y.toNat*2+1) (u:=.string tx) A1 hD.1 rfl rfl rfl rfl (by rw[hfl];omega)) rfl ?_;rintro _ i3 _ hi3 ⟨O',hO',rfl⟩;replace hi3:=hi2.trans hi3;refine zn ?_;repeat' (first|refine zp rfl ?_|refine zn ?_|refine A3 ?_|refine A6 (H3 rfl rfl (by omega)) rfl ?_)
     rw[F1b,←C9d fs y.toNat fy tx hfy] at hO';have efs:(fs.set y.toNat ⟨fy.name,tx⟩).length=fs.length:=by simp
     refine⟨(k-1).toNat,by omega,k-1,t9,n,cu,_,vs,_,A++(O'++B),rfl,by omega,by omega,hn,by omega,by omega,rfl,hO,hback (fs.set y.toNat ⟨fy.name,tx⟩) O' ⟨by rw[efs];exact hO',by rw[efs];exact hf3,fun f hf=>?_⟩,hg.le hi3,hl.le hi3,hset.le hi3,hi3.blk _ _ gs,by simp⟩;rcases List.mem_or_eq_of_mem_set hf with hf|rfl
     ·exact hD.2.2 f hf
     ·exact⟨hfyo.1,htx⟩
    ·repeat' (first|refine zp rfl ?_|refine zn ?_|refine A2 rfl ?_|refine A0 rfl ?_|refine zs [10,14] rfl ?_|refine A6 (H3 rfl rfl (by omega)) rfl ?_|(refine A7 (J7 _ 1 _ _ _ _ _ hl rfl (by omega) (by omega)) rfl (by kernel_rfl) rfl ?_;rintro _ _ _-⟨x,rfl,⟨hx0,hx1⟩,rfl,rfl⟩)|refine E1 rfl rfl rfl (fun h=>?_) (fun h=>?_))
     ·refine zr 15 ?_;refine zp rfl ?_;refine J3 (List.Perm.swap _ _ _) ?_;refine A7 (D2r tp lv _ _ _ hg hl (by omega)) rfl (by kernel_rfl) rfl ?_;rintro _ i9 _ hi9 ⟨a3,ao9,n9,cap9,vs9,O9,R9,rfl,hA1,hA2,hO9,hR9,hn9,rfl⟩;refine J3 (L':=[(bu,H2 (.slice (some ⟨g0,0,none⟩) n cu) (.slice ah nh ch) (.slice am nm cm) (.slice ab nb cb) (.slice ao no co) (.slice ak nk ck) (.slice ae ne ce) (.slice ap sp.length cp) (.int .i64 lim)),(tp,B5 lv a3),(r5,H2 A4 A4 A4 A4 A4 A4 A4 A4 (.int .i64 0)),(r4,H2 A4 A4 A4 A4 A4 A4 A4 A4 (.int .i64 0))]++(([(g0,.cells (vs++sp9).toArray 60 (0,0))]++(A++(O2++B)))++(O9++(R9++L)))) (A3c _ _ fun f=>by simp;omega) ?_;refine B0e [_,_,_,_] _ _ ?_;refine zp rfl ?_;refine zw 0 rfl rfl rfl rfl ?_;refine zn ?_;repeat' (first|refine zp rfl ?_|refine zn ?_|refine A3 ?_|refine A6 (H3 rfl rfl (by omega)) rfl ?_)
      exact⟨(k-1).toNat,by omega,k-1,a3,n9,cap9,ao9,vs9,O9,R9,rfl,by omega,by omega,hn9,by omega,by omega,rfl,hO9,hR9,hg.le hi9,hl.le hi9,hset.le hi9,hi9.blk _ _ gs,rfl⟩
     ·exact⟨(k-1).toNat,by omega,k-1,_,n,cu,_,vs,_,_,rfl,by omega,by omega,hn,by omega,by omega,rfl,hO,hR,hg,hl,hset,gs,rfl⟩
    ·repeat' (first|refine zp rfl ?_|refine zn ?_|refine A2 rfl ?_|refine A0 rfl ?_|refine zs [10,14] rfl ?_|refine A6 (H3 rfl rfl (by omega)) rfl ?_|(refine A7 (J7 _ 1 _ _ _ _ _ hl rfl (by omega) (by omega)) rfl (by kernel_rfl) rfl ?_;rintro _ _ _-⟨x,rfl,⟨hx0,hx1⟩,rfl,rfl⟩)|refine E1 rfl rfl rfl (fun h=>?_) (fun h=>?_))
     ·refine zr 15 ?_;refine zp rfl ?_;refine J3 (List.Perm.swap _ _ _) ?_;refine A7 (D2r tp lv _ _ _ hg hl (by omega)) rfl (by kernel_rfl) rfl ?_;rintro _ i9 _ hi9 ⟨a3,ao9,n9,cap9,vs9,O9,R9,rfl,hA1,hA2,hO9,hR9,hn9,rfl⟩;refine J3 (L':=[(bu,H2 (.slice (some ⟨g0,0,none⟩) n cu) (.slice ah nh ch) (.slice am nm cm) (.slice ab nb cb) (.slice ao no co) (.slice ak nk ck) (.slice ae ne ce) (.slice ap sp.length cp) (.int .i64 lim)),(tp,B5 lv a3),(r5,H2 A4 A4 A4 A4 A4 A4 A4 A4 (.int .i64 0)),(r4,H2 A4 A4 A4 A4 A4 A4 A4 A4 (.int .i64 0))]++(([(g0,.cells (vs++sp9).toArray 60 (0,0))]++(A++(O2++B)))++(O9++(R9++L)))) (A3c _ _ fun f=>by simp;omega) ?_;refine B0e [_,_,_,_] _ _ ?_;refine zp rfl ?_;refine zw 0 rfl rfl rfl rfl ?_;refine zn ?_;repeat' (first|refine zp rfl ?_|refine zn ?_|refine A3 ?_|refine A6 (H3 rfl rfl (by omega)) rfl ?_)
      exact⟨(k-1).toNat,by omega,k-1,a3,n9,cap9,ao9,vs9,O9,R9,rfl,by omega,by omega,hn9,by omega,by omega,rfl,hO9,hR9,hg.le hi9,hl.le hi9,hset.le hi9,hi9.blk _ _ gs,rfl⟩
     ·exact⟨(k-1).toNat,by omega,k-1,_,n,cu,_,vs,_,_,rfl,by omega,by omega,hn,by omega,by omega,rfl,hO,hR,hg,hl,hset,gs,rfl⟩
   ·repeat' (first|refine zp rfl ?_|refine zn ?_|refine A0 rfl ?_|refine zr 9 ?_|refine A6 (J4 rfl rfl (by omega)) rfl ?_|refine zo 0 rfl rfl rfl rfl ?_|refine A6 (I0 rfl rfl (by omega)) rfl ?_)
    refine F6 hO (L0:=(bu,H2 (.slice au n cu) (.slice ah nh ch) (.slice am nm cm) (.slice ab nb cb) (.slice ao no co) (.slice ak nk ck) (.slice ae ne ce) (.slice ap sp.length cp) (.int .i64 lim))::(tp,B5 lv a2)::(r5,H2 A4 A4 A4 A4 A4 A4 A4 A4 (.int .i64 0))::(r4,H2 A4 A4 A4 A4 A4 A4 A4 A4 (.int .i64 0))::(R++L)) (E9x [_,_,_,_] Oo _) (fun i3 hi3 hsm=>?_);refine A1r (E9x [_,_,_,_] R L) ?_;refine A4b fun w hw=>(hR.freeze hw).elim fun i4 hh=>⟨i4,_,hh.1,hh.2.1,?_⟩
    obtain⟨hi4,-,hDv⟩:=hh;have hdu:A8q i4 (.slice au n cu):=⟨n,vs,hsm.le hi4,hn,hDv⟩;replace hi4:=hi3.trans hi4;replace hg:=hg.le hi4;replace hset:=hset.le hi4;replace gs:=hi4.blk _ _ gs;obtain⟨_,h9,m9,b9,o9,k9,e9,p9,lim9,hse,hsd,hs2⟩:=id hset;cases hse;have hset2:A8y i4 [.slice au n cu,.slice ah nh ch,.slice am nm cm,.slice ab nb cb,.slice ao no co,.slice ak nk ck,.slice ae ne ce,.slice ap sp.length cp,.int .i64 lim]:=⟨_,_,_,_,_,_,_,_,_,rfl,hdu,hs2⟩;refine zr 16 ?_;refine D4 (B0 A1 rfl (Has.imm gs) rfl) rfl ?_;refine A7 (A8d [.slice ad nd cd,.slice ah nh ch,.slice am nm cm,.slice ab nb cb,.slice ao no co,.slice ak nk ck,.slice ae ne ce,.slice ap sp.length cp,.int .i64 lim] _ _ hg hset) rfl (by kernel_rfl) rfl ?_;rintro _ i5 _ hi5 ⟨⟨ra,fa,ea,rfl,hra,⟨_,_,_,rfl⟩,⟨_,rfl⟩⟩,rfl⟩;obtain⟨ara,nra,kra,rfl,-⟩:=hra.shape;iterate 7 refine zp rfl ?_
    refine zn ?_;repeat' (first|refine zn ?_|fail)
    refine zr 17 ?_;refine zo 0 rfl rfl rfl rfl ?_;refine A7 (A8d [.slice au n cu,.slice ah nh ch,.slice am nm cm,.slice ab nb cb,.slice ao no co,.slice ak nk ck,.slice ae ne ce,.slice ap sp.length cp,.int .i64 lim] _ _ (hg.le hi5) (hset2.le hi5)) rfl (by kernel_rfl) rfl ?_;rintro _ i6 _ hi6 ⟨⟨rb,fb,eb,rfl,hrb,⟨_,_,_,rfl⟩,⟨_,rfl⟩⟩,rfl⟩;obtain⟨arb,nrb,krb,rfl,-⟩:=hrb.shape;replace hra:=hra.le hi6;replace gs:=(hi5.trans hi6).blk _ _ gs;iterate 7 refine zp rfl ?_
    refine zn ?_;repeat' (first|refine zn ?_|fail)
    refine F9 J9 [0,1,2,3,4,5,6,7] [] [6,7] (fun L9=>∃o4 o5,L9=(bu,H2 (.slice au n cu) (.slice ah nh ch) (.slice am nm cm) (.slice ab nb cb) (.slice ao no co) (.slice ak nk ck) (.slice ae ne ce) (.slice ap sp.length cp) (.int .i64 lim))::(tp,B5 lv a2)::(r5,o5)::(r4,o4)::L) (fun L9=>L9=(bu,H2 (.slice au n cu) (.slice ah nh ch) (.slice am nm cm) (.slice ab nb cb) (.slice ao no co) (.slice ak nk ck) (.slice ae ne ce) (.slice ap sp.length cp) (.int .i64 lim))::(tp,B5 lv a2)::(r5,H2 A4 A4 A4 A4 A4 A4 A4 A4 (.int .i64 0))::(r4,H2 A4 A4 A4 A4 A4 A4 A4 A4 (.int .i64 0))::L) (by kernel_rfl) (by decide) rfl ⟨_,_,rfl⟩ rfl ?_;iterate 2 refine zg rfl rfl rfl ?_
    refine D7 (fun i' hi L' hL=>B0 A1 rfl (Has.imm (hi.blk _ _ gs)) rfl) rfl rfl rfl rfl rfl rfl ?_;refine D7 (fun i' hi L' hL=>by obtain⟨o4,o5,rfl⟩:=hL;exact B0 A1 rfl (Has.own 0 rfl) rfl) rfl rfl rfl rfl rfl rfl ?_;iterate 2 refine zg rfl rfl rfl ?_
    refine P5 (fun L9=>L9=(bu,H2 (.slice au n cu) (.slice ah nh ch) (.slice am nm cm) (.slice ab nb cb) (.slice ao no co) (.slice ak nk ck) (.slice ae ne ce) (.slice ap sp.length cp) (.int .i64 lim))::(tp,B5 lv a2)::(r5,H2 A4 A4 A4 A4 A4 A4 A4 A4 (.int .i64 0))::(r4,.cells (E9d [.slice ad nd cd,.slice ah nh ch,.slice am nm cm,.slice ab nb cb,.slice ao no co,.slice ak nk ck,.slice ae ne ce,.slice ap sp.length cp,.int .i64 lim]) 35 (0,0))::L) rfl rfl rfl rfl (fun i' hi L' _ hA=>⟨rfl,by subst hA;exact J0 (k:=3) A1 rfl rfl rfl rfl rfl rfl rfl ⟨⟨_,_,rfl⟩,rfl⟩⟩) ?_;refine P5 (fun L9=>L9=(bu,H2 (.slice au n cu) (.slice ah nh ch) (.slice am nm cm) (.slice ab nb cb) (.slice ao no co) (.slice ak nk ck) (.slice ae ne ce) (.slice ap sp.length cp) (.int .i64 lim))::(tp,B5 lv a2)::(r5,H2 (.slice au n cu) (.slice ah nh ch) (.slice am nm cm) (.slice ab nb cb) (.slice ao no co) (.slice ak nk ck) (.slice ae ne ce) (.slice ap sp.length cp) (.int .i64 lim))::(r4,.cells (E9d [.slice ad nd cd,.slice ah nh ch,.slice am nm cm,.slice ab nb cb,.slice ao no co,.slice ak nk ck,.slice ae ne ce,.slice ap sp.length cp,.int .i64 lim]) 35 (0,0))::L) rfl rfl rfl rfl (fun i' hi L' _ hA=>⟨rfl,by subst hA;exact J0 (k:=2) A1 rfl rfl rfl rfl rfl rfl rfl ⟨⟨_,_,rfl⟩,rfl⟩⟩) ?_;refine G1 rfl rfl (fun i7 L7 hi7 _ hA=>?_);subst hA;refine zn ?_;repeat' (first|refine zn ?_|fail)
    exact⟨r4,_,_,_,_,r5,_,_,_,_,rfl,Has.own 3 rfl,rfl,rfl,Has.own 2 rfl,rfl,_,_,_,a2,⟨_,_,[.slice ad nd cd,.slice ah nh ch,.slice am nm cm,.slice ab nb cb,.slice ao no co,.slice ak nk ck,.slice ae ne ce,.slice ap sp.length cp,.int .i64 lim],[.slice au n cu,.slice ah nh ch,.slice am nm cm,.slice ab nb cb,.slice ao no co,.slice ak nk ck,.slice ae ne ce,.slice ap sp.length cp,.int .i64 lim],rfl,hra.le hi7,hrb.le hi7,hset.le ((hi5.trans hi6).trans hi7),hset2.le ((hi5.trans hi6).trans hi7)⟩,by omega,by omega,rfl⟩
  ·repeat' (first|refine zp rfl ?_|refine zn ?_|refine A0 rfl ?_|refine zr 9 ?_|refine A6 (I0 rfl rfl (by omega)) rfl ?_)
   refine F6 hO (L0:=(bu,H2 (.slice au n cu) (.slice ah nh ch) (.slice am nm cm) (.slice ab nb cb) (.slice ao no co) (.slice ak nk ck) (.slice ae ne ce) (.slice ap sp.length cp) (.int .i64 lim))::(tp,B5 lv a2)::(r5,H2 A4 A4 A4 A4 A4 A4 A4 A4 (.int .i64 0))::(r4,H2 A4 A4 A4 A4 A4 A4 A4 A4 (.int .i64 0))::(R++L)) (E9x [_,_,_,_] Oo _) (fun i3 hi3 hsm=>?_);refine A1r (E9x [_,_,_,_] R L) ?_;refine A4b fun w hw=>(hR.freeze hw).elim fun i4 hh=>⟨i4,_,hh.1,hh.2.1,?_⟩
   obtain⟨hi4,-,hDv⟩:=hh;have hdu:A8q i4 (.slice au n cu):=⟨n,vs,hsm.le hi4,hn,hDv⟩;replace hi4:=hi3.trans hi4;replace hg:=hg.le hi4;replace hset:=hset.le hi4;replace gs:=hi4.blk _ _ gs;obtain⟨_,h9,m9,b9,o9,k9,e9,p9,lim9,hse,hsd,hs2⟩:=id hset;cases hse;have hset2:A8y i4 [.slice au n cu,.slice ah nh ch,.slice am nm cm,.slice ab nb cb,.slice ao no co,.slice ak nk ck,.slice ae ne ce,.slice ap sp.length cp,.int .i64 lim]:=⟨_,_,_,_,_,_,_,_,_,rfl,hdu,hs2⟩;refine zr 16 ?_;refine D4 (B0 A1 rfl (Has.imm gs) rfl) rfl ?_;refine A7 (A8d [.slice ad nd cd,.slice ah nh ch,.slice am nm cm,.slice ab nb cb,.slice ao no co,.slice ak nk ck,.slice ae ne ce,.slice ap sp.length cp,.int .i64 lim] _ _ hg hset) rfl (by kernel_rfl) rfl ?_;rintro _ i5 _ hi5 ⟨⟨ra,fa,ea,rfl,hra,⟨_,_,_,rfl⟩,⟨_,rfl⟩⟩,rfl⟩;obtain⟨ara,nra,kra,rfl,-⟩:=hra.shape;iterate 7 refine zp rfl ?_
   refine zn ?_;repeat' (first|refine zn ?_|fail)
   refine zr 17 ?_;refine zo 0 rfl rfl rfl rfl ?_;refine A7 (A8d [.slice au n cu,.slice ah nh ch,.slice am nm cm,.slice ab nb cb,.slice ao no co,.slice ak nk ck,.slice ae ne ce,.slice ap sp.length cp,.int .i64 lim] _ _ (hg.le hi5) (hset2.le hi5)) rfl (by kernel_rfl) rfl ?_;rintro _ i6 _ hi6 ⟨⟨rb,fb,eb,rfl,hrb,⟨_,_,_,rfl⟩,⟨_,rfl⟩⟩,rfl⟩;obtain⟨arb,nrb,krb,rfl,-⟩:=hrb.shape;replace hra:=hra.le hi6;replace gs:=(hi5.trans hi6).blk _ _ gs;iterate 7 refine zp rfl ?_
   refine zn ?_;repeat' (first|refine zn ?_|fail)
   refine F9 J9 [0,1,2,3,4,5,6,7] [] [6,7] (fun L9=>∃o4 o5,L9=(bu,H2 (.slice au n cu) (.slice ah nh ch) (.slice am nm cm) (.slice ab nb cb) (.slice ao no co) (.slice ak nk ck) (.slice ae ne ce) (.slice ap sp.length cp) (.int .i64 lim))::(tp,B5 lv a2)::(r5,o5)::(r4,o4)::L) (fun L9=>L9=(bu,H2 (.slice au n cu) (.slice ah nh ch) (.slice am nm cm) (.slice ab nb cb) (.slice ao no co) (.slice ak nk ck) (.slice ae ne ce) (.slice ap sp.length cp) (.int .i64 lim))::(tp,B5 lv a2)::(r5,H2 A4 A4 A4 A4 A4 A4 A4 A4 (.int .i64 0))::(r4,H2 A4 A4 A4 A4 A4 A4 A4 A4 (.int .i64 0))::L) (by kernel_rfl) (by decide) rfl ⟨_,_,rfl⟩ rfl ?_;iterate 2 refine zg rfl rfl rfl ?_
   refine D7 (fun i' hi L' hL=>B0 A1 rfl (Has.imm (hi.blk _ _ gs)) rfl) rfl rfl rfl rfl rfl rfl ?_;refine D7 (fun i' hi L' hL=>by obtain⟨o4,o5,rfl⟩:=hL;exact B0 A1 rfl (Has.own 0 rfl) rfl) rfl rfl rfl rfl rfl rfl ?_;iterate 2 refine zg rfl rfl rfl ?_
   refine P5 (fun L9=>L9=(bu,H2 (.slice au n cu) (.slice ah nh ch) (.slice am nm cm) (.slice ab nb cb) (.slice ao no co) (.slice ak nk ck) (.slice ae ne ce) (.slice ap sp.length cp) (.int .i64 lim))::(tp,B5 lv a2)::(r5,H2 A4 A4 A4 A4 A4 A4 A4 A4 (.int .i64 0))::(r4,.cells (E9d [.slice ad nd cd,.slice ah nh ch,.slice am nm cm,.slice ab nb cb,.slice ao no co,.slice ak nk ck,.slice ae ne ce,.slice ap sp.length cp,.int .i64 lim]) 35 (0,0))::L) rfl rfl rfl rfl (fun i' hi L' _ hA=>⟨rfl,by subst hA;exact J0 (k:=3) A1 rfl rfl rfl rfl rfl rfl rfl ⟨⟨_,_,rfl⟩,rfl⟩⟩) ?_;refine P5 (fun L9=>L9=(bu,H2 (.slice au n cu) (.slice ah nh ch) (.slice am nm cm) (.slice ab nb cb) (.slice ao no co) (.slice ak nk ck) (.slice ae ne ce) (.slice ap sp.length cp) (.int .i64 lim))::(tp,B5 lv a2)::(r5,H2 (.slice au n cu) (.slice ah nh ch) (.slice am nm cm) (.slice ab nb cb) (.slice ao no co) (.slice ak nk ck) (.slice ae ne ce) (.slice ap sp.length cp) (.int .i64 lim))::(r4,.cells (E9d [.slice ad nd cd,.slice ah nh ch,.slice am nm cm,.slice ab nb cb,.slice ao no co,.slice ak nk ck,.slice ae ne ce,.slice ap sp.length cp,.int .i64 lim]) 35 (0,0))::L) rfl rfl rfl rfl (fun i' hi L' _ hA=>⟨rfl,by subst hA;exact J0 (k:=2) A1 rfl rfl rfl rfl rfl rfl rfl ⟨⟨_,_,rfl⟩,rfl⟩⟩) ?_;refine G1 rfl rfl (fun i7 L7 hi7 _ hA=>?_);subst hA;refine zn ?_;repeat' (first|refine zn ?_|fail)
   exact⟨r4,_,_,_,_,r5,_,_,_,_,rfl,Has.own 3 rfl,rfl,rfl,Has.own 2 rfl,rfl,_,_,_,a2,⟨_,_,[.slice ad nd cd,.slice ah nh ch,.slice am nm cm,.slice ab nb cb,.slice ao no co,.slice ak nk ck,.slice ae ne ce,.slice ap sp.length cp,.int .i64 lim],[.slice au n cu,.slice ah nh ch,.slice am nm cm,.slice ab nb cb,.slice ao no co,.slice ak nk ck,.slice ae ne ce,.slice ap sp.length cp,.int .i64 lim],rfl,hra.le hi7,hrb.le hi7,hset.le ((hi5.trans hi6).trans hi7),hset2.le ((hi5.trans hi6).trans hi7)⟩,by omega,by omega,rfl⟩
noncomputable instance:DecidableEq Term:=fun a b=>Classical.propDecidable (a=b)
theorem C0q{α:Type}{a b:List α}{k:Nat}(h:∀j,j<k→a[j]?=b[j]?)(hk:a[k]?=b[k]?):∀j,j<k+1→a[j]?=b[j]?:=fun j hj=>by
 rcases F0m.1 hj with hj|rfl
 ·exact h j hj
 ·exact hk
theorem C8f(x y:Term):B3r (H6 x) (H6 y)=decide (x=y):=by
 obtain⟨a,b,c,d⟩:=x;obtain⟨e,f,g,h⟩:=y;rw[Bool.eq_iff_iff,decide_eq_true_iff];simp[B3r,D1u,H6]
structure Rul where
 file:ByteArray
 line:Int
 terms:List Term
def B6b(i:Imm)(l:List Value)(r:Rul):Prop:=∃ao cap,l=[.string r.file,.int .i64 r.line,.slice ao r.terms.length cap]∧Sl i (.slice ao r.terms.length cap) 4 r.terms.length (terms r.terms)∧r.terms.length≤1024∧Q6 1024 r.terms∧r.file.size≤64
def Q0(i:Imm)(v:Value)(rs:List Rul):Prop:=∃cs,Sl i v 3 rs.length cs∧(∀k r,rs[k]?=some r→B6b i (nth 3 cs k) r)∧rs.length≤512∧A9x v
theorem R7.val{i:Imm}{v:Value}(h:R7 i 512 v):∃rs,Q0 i v rs:=by
 obtain⟨n,cs,h1,h2,h3,h4⟩:=h
 have hx:∀k:Fin n,∃r,B6b i (nth 3 cs k) r:=fun k=>by
  obtain⟨f,l,tv,e,hf,ts,hts,htn,hsm⟩:=h2 k k.2;obtain⟨ao,cap,rfl,_⟩:=id hts;exact⟨⟨f,l,ts⟩,ao,cap,e,hts,htn,hsm,hf⟩
 refine⟨List.ofFn fun k=>Classical.choose (hx k),cs,by rw[List.length_ofFn];exact h1,fun k r hr=>?_,by rw[List.length_ofFn];exact h3,h4⟩;have hk:k<n:=by have:=(E9e.1 hr).1;rwa [List.length_ofFn] at this
 have:=Classical.choose_spec (hx ⟨k,hk⟩)
 rw[List.getElem?_ofFn] at hr;simp[hk] at hr;subst hr;exact this
theorem Q0.at{i:Imm}{v:Value}{rs:List Rul}{k:Nat}{r:Rul}(h:Q0 i v rs)(hk:rs[k]?=some r):
 ∃b o c t z cap ta tc,v=.slice (some ⟨b,o,none⟩) rs.length cap∧i.blk b=some (.cells (E9d c) t z)∧(∀d u,[E9z r.file,.int .i64 r.line,.slice ta r.terms.length tc][d]?=some u→c[o+((k:Nat):Int).toNat*3+d]?=some u)∧Sl i (.slice ta r.terms.length tc) 4 r.terms.length (terms r.terms)∧r.terms.length≤1024:=by
 obtain⟨cs,h1,h2,h3,h4⟩:=h;obtain⟨ta,tc,e,h5,h6,_⟩:=h2 k r hk;obtain⟨b,o,c,t,z,cap,g1,g2,g3,g4⟩:=Sl.nth h1 (E9e.1 hk).1 (by omega);rw[e] at g4;exact⟨b,o,c,t,z,cap,ta,tc,g1,g2,g4,h5,h6⟩
def S3(e:Nat→Prop)(n k:Nat):Prop:=k≤n∧(∀j,j<k→e j)∧(k=n∨¬e k)
theorem S3.uniq{e:Nat→Prop}{n k k':Nat}(h:S3 e n k)(h':S3 e n k'):k=k':=by
 obtain⟨h1,h2,h3⟩:=h;obtain⟨g1,g2,g3⟩:=h';rcases Nat.lt_trichotomy k k' with hlt|heq|hgt
 ·rcases h3 with h3|h3
  ·omega
  ·exact absurd (g2 k hlt) h3
 ·exact heq
 ·rcases g3 with g3|g3
  ·omega
  ·exact absurd (h2 k' hgt) g3
def eF(rs us:List Rul)(j:Nat):Prop:=rs[j]?.map (·.terms)=us[j]?.map (·.terms)
def eB(rs us:List Rul)(j:Nat):Prop:=rs[rs.length-1-j]?.map (·.terms)=us[us.length-1-j]?.map (·.terms)
def CommonV(rs us:List Rul)(v:Value):Prop:=∃a b:Nat,v=.tuple #[.int .i64 a,.int .i64 b]∧S3 (eF rs us) (min rs.length us.length) a∧S3 (eB rs us) (min rs.length us.length-a) b
theorem Equal_t(va vb:Value)(a b:List Term)(i:Imm)(L:SH)(ha:Sl i va 4 a.length (terms a))(hb:Sl i vb 4 b.length (terms b))(hn:a.length≤9223372036854775806):
 E6 E9c 101 [va,vb] i L fun v i' L'=>v=.bool (decide (a=b))∧i'=i∧L'=L:=by
 obtain⟨aa,ac,hva,_⟩:=id ha;obtain⟨ba,bc,hvb,_⟩:=id hb;subst hva;subst hvb;refine A5 Tryz.func101 rfl rfl (by simp) rfl ?_;by_cases hl:a.length=b.length
 ·repeat' (first|refine zp rfl ?_|refine zn ?_|refine A0 rfl ?_|refine zs [0,1,3] rfl ?_|refine A6 (T3 rfl rfl (by omega)) rfl ?_)
  refine B1 [0,1,12,13] (fun m vs i' L'=>∃k:Nat,m=a.length-k∧k≤a.length∧(∀j,j<k→a[j]?=b[j]?)∧vs=[.slice aa a.length ac,.slice ba b.length bc,.int .i64 (a.length:Int),.int .i64 (k:Int)]∧i'=i∧L'=L) a.length ⟨0,rfl,E9k _,fun j hj=>absurd hj (by omega),rfl,rfl,rfl⟩ ?_;rintro m g vs i' L' hi ⟨k,rfl,hk,hpre,rfl,rfl,rfl⟩;by_cases hlt:k<a.length
  ·obtain⟨x,hx⟩:=zi a k hlt;obtain⟨y,hy⟩:=zi b k (by omega);obtain⟨b1,o1,c1,t1,z1,p1,e1,g1,q1⟩:=Y4 ha hx;obtain⟨b2,o2,c2,t2,z2,p2,e2,g2,q2⟩:=Y4 hb hy;cases e1;cases e2;repeat' (first|refine zp rfl ?_|refine zq rfl ?_|refine zn ?_|refine A2 rfl ?_|refine A0 rfl ?_|refine zs [4,5,7,8] rfl ?_|refine C8 (id:=6) J9 (by kernel_rfl) ?_|refine zt rfl rfl (by omega) rfl ?_|refine D3 (A9 A1 rfl rfl rfl (by omega)) rfl ?_|refine F0 (D9 A1 rfl (Has.imm g1) (l:=H6 x) rfl rfl rfl q1) rfl ?_|refine F0 (D9 A1 rfl (Has.imm g2) (l:=H6 y) rfl rfl rfl q2) rfl ?_|refine QS.pvN (p:=x=y) (by rw[←C8f];exact C9t A1 (by kernel_rfl) (by kernel_rfl) rfl rfl (by kernel_rfl)) rfl (fun h=>?_) (fun h=>?_)|refine zd rfl rfl (by omega) rfl ?_)
   ·exact⟨a.length-(k+1),by omega,k+1,rfl,hlt,C0q hpre (by rw[hx,hy,h]),rfl,rfl,rfl⟩
   ·refine⟨congrArg F0x (decide_eq_false fun e=>h ?_).symm,rfl,rfl⟩;rw[e,hy] at hx;cases hx;rfl
  ·have:k=a.length:=by omega
   subst this;repeat' (first|refine zp rfl ?_|refine zn ?_|refine A0 rfl ?_|refine zs [4,9] rfl ?_|refine zf rfl rfl (by omega) rfl ?_)
   refine⟨congrArg F0x (decide_eq_true ?_).symm,rfl,rfl⟩;refine List.ext_getElem? fun j=>?_
   by_cases hj:j<a.length
   ·exact hpre j hj
   ·rw[List.getElem?_eq_none (by omega),List.getElem?_eq_none (by omega)]
 ·repeat' (first|refine zp rfl ?_|refine zn ?_|refine A2 rfl ?_|refine zs [0,1,2] rfl ?_|refine A6 (T1 rfl rfl (by omega)) rfl ?_)
  exact⟨congrArg F0x (decide_eq_false fun e=>hl (by rw[e])).symm,rfl,rfl⟩
theorem alike_t(f1 f2:ByteArray)(l1 l2:Int)(a1 a2:Option Addr)(c1 c2:Nat)(ta tb:List Term)(i:Imm)(L:SH)(ha:Sl i (.slice a1 ta.length c1) 4 ta.length (terms ta))(hb:Sl i (.slice a2 tb.length c2) 4 tb.length (terms tb))(hn:ta.length≤1024):
 E6 E9c 56 [.agg #[.string f1,.int .i64 l1,.slice a1 ta.length c1],.agg #[.string f2,.int .i64 l2,.slice a2 tb.length c2]] i L fun v i' L'=>v=.bool (decide (ta=tb))∧L'=L:=by
 refine A6v ?_;refine A5 Tryz.func56 rfl rfl (by simp) rfl ?_;repeat' (first|refine zp rfl ?_|refine zn ?_|refine A3 ?_|refine E4 rfl rfl (fun b1=>?_)|refine zo 1 rfl rfl rfl rfl ?_|refine zo 0 rfl rfl rfl rfl ?_|(refine A7 (Equal_t _ _ ta tb _ _ ha hb (by omega)) rfl (by kernel_rfl) rfl ?_;rintro _ i _-⟨rfl,rfl,rfl⟩))
 exact⟨[_,_],rfl,rfl⟩
theorem fwd_t(v:Value)(ao:Option Addr)(n cap:Nat)(hv:v=.slice ao n cap)(i:Imm)(L:SH):
 E6 E9c 24 [v] i L fun r i' L'=>(∃bx,r=.func (.func 25) #[] #[.pointer (some ⟨bx,0,none⟩)]∧i'.blk bx=some (.cells [v].toArray 26 (0,0)))∧L'=L:=by
 subst hv;refine A5 Tryz.func24 rfl rfl (by simp) rfl ?_;repeat' (first|refine zp rfl ?_|refine zn ?_|refine A3 ?_|(refine E4 rfl rfl (fun bx=>?_);refine M3 (fun i hi gx=>?_))|refine A6 (T9) rfl ?_)
 exact⟨⟨bx,rfl,gx⟩,rfl⟩
theorem bwd_t(v:Value)(ao:Option Addr)(n cap:Nat)(hv:v=.slice ao n cap)(i:Imm)(L:SH):
 E6 E9c 26 [v] i L fun r i' L'=>(∃bx,r=.func (.func 27) #[] #[.pointer (some ⟨bx,0,none⟩)]∧i'.blk bx=some (.cells [v].toArray 26 (0,0)))∧L'=L:=by
 subst hv;refine A5 Tryz.func26 rfl rfl (by simp) rfl ?_;repeat' (first|refine zp rfl ?_|refine zn ?_|refine A3 ?_|(refine E4 rfl rfl (fun bx=>?_);refine M3 (fun i hi gx=>?_))|refine A6 (T9) rfl ?_)
 exact⟨⟨bx,rfl,gx⟩,rfl⟩
def RulA(i:Imm)(v:Value)(ts:List Term):Prop:=∃f l ao cap,v=.agg #[.string f,.int .i64 l,.slice ao ts.length cap]∧Sl i (.slice ao ts.length cap) 4 ts.length (terms ts)∧ts.length≤1024
theorem Q0.le{i i':Imm}{v:Value}{rs:List Rul}(h:Q0 i v rs)(hi:i.le i'):Q0 i' v rs:=by
 obtain⟨cs,h1,h2,h3,h4⟩:=h;refine⟨cs,h1.le hi,fun k r hk=>?_,h3,h4⟩;obtain⟨ta,tc,e,h5,h6⟩:=h2 k r hk;exact⟨ta,tc,e,h5.le hi,h6⟩
theorem E4e(v:Value)(rs:List Rul)(k:Nat)(r:Rul)(bx:Nat)(i:Imm)(L:SH)(hv:Q0 i v rs)(hk:rs[k]?=some r)(gx:i.blk bx=some (.cells [v].toArray 26 (0,0))):
 E6 E9c 25 [.int .i64 (k:Int),.pointer (some ⟨bx,0,none⟩)] i L fun v i' L'=>RulA i' v r.terms∧L'=L:=by
 refine E6.drop ?_;obtain⟨b1,o1,c1,t1,z1,cap,ta,tc,rfl,g1,q1,hs1,hn1⟩:=hv.at hk;have hlt:=(E9e.1 hk).1;have h512:rs.length≤512:=by obtain⟨_,_,_,h,_⟩:=hv;exact h
 refine O8 A1 Tryz.func25 rfl rfl (by simp) rfl ?_;repeat' (first|refine zp rfl ?_|refine zn ?_|refine A3 ?_|refine C1 A1 rfl rfl (fun br=>?_)|refine D4 (B0 A1 rfl (Has.imm gx) rfl) rfl ?_|refine zx rfl rfl rfl (by omega) rfl ?_|refine D4 (D9 (l:=[_,_,_]) A1 rfl (Has.imm g1) rfl rfl rfl q1) rfl ?_|refine zw 0 rfl rfl rfl rfl ?_)
 exact⟨_,_,_,_,_,_,rfl,Has.own 0 rfl,rfl,[_],⟨_,_,_,_,rfl,hs1,hn1⟩,rfl⟩
theorem E4d(v:Value)(rs:List Rul)(k:Nat)(r:Rul)(bx:Nat)(i:Imm)(L:SH)(hv:Q0 i v rs)(hlt:k<rs.length)(hk:rs[rs.length-1-k]?=some r)(gx:i.blk bx=some (.cells [v].toArray 26 (0,0))):
 E6 E9c 27 [.int .i64 (k:Int),.pointer (some ⟨bx,0,none⟩)] i L fun v i' L'=>RulA i' v r.terms∧L'=L:=by
 refine E6.drop ?_;obtain⟨b1,o1,c1,t1,z1,cap,ta,tc,rfl,g1,q1,hs1,hn1⟩:=hv.at hk;rw[show(((rs.length-1-k:Nat):Nat):Int)=(rs.length:Int)-1-(k:Int) by omega] at q1;have h512:rs.length≤512:=by obtain⟨_,_,_,h,_⟩:=hv;exact h
 refine O8 A1 Tryz.func27 rfl rfl (by simp) rfl ?_;repeat' (first|refine zp rfl ?_|refine zn ?_|refine A3 ?_|refine C1 A1 rfl rfl (fun br=>?_)|refine D4 (B0 A1 rfl (Has.imm gx) rfl) rfl ?_|refine A6 (H3 rfl rfl (by omega)) rfl ?_|refine zx rfl rfl rfl (by omega) rfl ?_|refine D4 (D9 (l:=[_,_,_]) A1 rfl (Has.imm g1) rfl rfl rfl q1) rfl ?_|refine zw 0 rfl rfl rfl rfl ?_)
 exact⟨_,_,_,_,_,_,rfl,Has.own 0 rfl,rfl,[_],⟨_,_,_,_,rfl,hs1,hn1⟩,rfl⟩
theorem C1q(n:Nat)(ga gb:FuncId)(pa pb:Value)(tA tB:Nat→List Term)(i:Imm)(L:SH)(hn:n≤1000)(hga:Z2 E9c ga=true)(hgb:Z2 E9c gb=true)
 (hA:∀(k:Nat)(i':Imm)(L':SH),k<n→i.le i'→E6 E9c ga [.int .i64 (k:Int),pa] i' L' fun v i'' L''=>RulA i'' v (tA k)∧L''=L')
 (hB:∀(k:Nat)(i':Imm)(L':SH),k<n→i.le i'→E6 E9c gb [.int .i64 (k:Int),pb] i' L' fun v i'' L''=>RulA i'' v (tB k)∧L''=L'):
 E6 E9c 28 [.int .i64 (n:Int),.func (.func ga) #[] #[pa],.func (.func gb) #[] #[pb]] i L fun v i' L'=>(∃k:Nat,v=.int .i64 (k:Int)∧S3 (fun j=>tA j=tB j) n k)∧L'=L:=by
 refine A5 Tryz.func28 rfl rfl (by simp) rfl ?_;repeat' (first|refine zn ?_|(refine zr 0 ?_;refine zp rfl ?_;refine zn ?_))
 refine zr 1 ?_;refine zp rfl ?_;refine zn ?_;refine zn ?_;refine K9 [7] (fun vs i' L'=>∃k:Nat,vs=[.int .i64 (k:Int)]∧S3 (fun j=>tA j=tB j) n k∧L'=L) ?_ ?_
 ·repeat' (first|refine zn ?_|fail)
  refine B1 [0,1,2,7] (fun m vs i' L'=>∃k:Nat,m=n-k∧k≤n∧vs=[.int .i64 (n:Int),.func (.func ga) #[] #[pa],.func (.func gb) #[] #[pb],.int .i64 (k:Int)]∧(∀j,j<k→tA j=tB j)∧i.le i'∧L'=L) _ ⟨0,rfl,E9k _,rfl,(fun j hj=>absurd hj (by omega)),Imm.le.refl _,rfl⟩ ?_;rintro m g vs i2 L hi2 ⟨k,rfl,hk,rfl,hpre,hle,rfl⟩;by_cases hlt:k<n
  ·repeat' (first|refine zn ?_|fail)
   refine zr 2 ?_;iterate 2 refine zp rfl ?_
   refine zt rfl rfl (by omega) rfl ?_;all_goals refine zp rfl ?_
   (all_goals(refine zp rfl ?_))
   (all_goals(refine zp rfl ?_))
   refine T6 (hA k _ _ hlt hle) rfl rfl hga rfl ?_;rintro _ i3 L hi3 ⟨⟨f1,l1,a1,c1,rfl,hs1,hn1⟩,rfl⟩;refine zp rfl ?_;refine zp rfl ?_;refine T6 (hB k _ _ hlt (hle.trans hi3)) rfl rfl hgb rfl ?_;rintro _ i4 L hi4 ⟨⟨f2,l2,a2,c2,rfl,hs2,hn2⟩,rfl⟩;refine A7 (alike_t _ _ _ _ _ _ _ _ (tA k) (tB k) _ _ (hs1.le hi4) hs2 hn1) rfl (by kernel_rfl) rfl ?_;rintro _ i5 L hi5 ⟨rfl,rfl⟩;replace hle:=((hle.trans hi3).trans hi4).trans hi5;by_cases hab:tA k=tB k
   ·rw[decide_eq_true hab];refine zp rfl ?_;refine zn ?_;repeat' (first|refine zp rfl ?_|refine zn ?_|refine A2 rfl ?_|refine A3 ?_|refine zd rfl rfl (by omega) rfl ?_)
    exact⟨n-(k+1),by omega,k+1,rfl,hlt,rfl,(fun j hj=>by rcases F0m.1 hj with hj|rfl;exact hpre j hj;exact hab),hle,rfl⟩
   ·rw[decide_eq_false hab];refine zp rfl ?_;refine zn ?_;repeat' (first|refine zn ?_|refine A0 rfl ?_)
    exact⟨k,rfl,⟨hk,hpre,.inr hab⟩,rfl⟩
  ·repeat' (first|refine zp rfl ?_|refine zn ?_|refine A0 rfl ?_|refine A3 ?_|refine zf rfl rfl (by omega) rfl ?_)
   exact⟨k,rfl,⟨hk,hpre,.inl (by omega)⟩,rfl⟩
 rintro g vs i L hi ⟨k,rfl,hp,rfl⟩;repeat' (first|refine zp rfl ?_|refine zn ?_|refine A3 ?_)
 exact⟨⟨k,rfl,hp⟩,rfl⟩
theorem S3.congr{e e':Nat→Prop}{n k:Nat}(h:S3 e n k)(hc:∀j,j<n→(e j↔e' j)):S3 e' n k:=by
 obtain⟨h1,h2,h3⟩:=h;refine⟨h1,fun j hj=>(hc j (by omega)).1 (h2 j hj),?_⟩;rcases h3 with h3|h3
 ·exact .inl h3
 ·by_cases hk:k<n
  ·exact .inr fun h=>h3 ((hc k hk).2 h)
  ·exact .inl (by omega)
def tF(rs:List Rul)(j:Nat):List Term:=(rs[j]?.map (·.terms)).getD []
theorem C0m{rs:List Rul}{j:Nat}(h:j<rs.length):∃r,rs[j]?=some r∧tF rs j=r.terms:=⟨_,E9v h,by simp[tF,E9v h]⟩
theorem E4c{rs us:List Rul}{j k:Nat}(h:j<rs.length)(h':k<us.length):(rs[j]?.map (·.terms)=us[k]?.map (·.terms))↔tF rs j=tF us k:=by
 obtain⟨r,h1,h2⟩:=C0m h;obtain⟨u,h3,h4⟩:=C0m h';rw[h1,h3,h2,h4];simp
theorem E0z(va vb:Value)(rs us:List Rul)(i:Imm)(L:SH)(ha:Q0 i va rs)(hb:Q0 i vb us):
 E6 E9c 7 [va,vb] i L fun v i' L'=>CommonV rs us v∧L'=L:=by
 obtain⟨_,⟨aa,ac,rfl,_⟩,_,hr5,_⟩:=id ha;obtain⟨_,⟨ba,bc,rfl,_⟩,_,hu5,_⟩:=id hb;have hmin:min (rs.length:Int) (us.length:Int)=((min rs.length us.length:Nat):Int):=by omega
 refine G4 Tryz.func7 rfl rfl (by simp) rfl ?_;repeat' (first|refine zp rfl ?_|refine zn ?_|refine zs [0,1,2,3] rfl ?_|refine A6 (D7k rfl rfl) rfl ?_)
 refine zr 4 ?_;iterate 3 refine zp rfl ?_
 refine T6 (fwd_t _ _ _ _ rfl _ _) rfl rfl (by kernel_rfl) rfl ?_;rintro _ i L hi ⟨⟨bx,rfl,gx⟩,rfl⟩;replace ha:=ha.le hi;replace hb:=hb.le hi;iterate 2 refine zp rfl ?_
 refine T6 (fwd_t _ _ _ _ rfl _ _) rfl rfl (by kernel_rfl) rfl ?_;rintro _ i L hi ⟨⟨by1,rfl,gy⟩,rfl⟩;replace ha:=ha.le hi;replace hb:=hb.le hi;replace gx:=hi.blk _ _ gx
 refine A7 (vs:=[.int .i64 ((min rs.length us.length:Nat):Int),.func (.func 25) #[] #[.pointer (some ⟨bx,0,none⟩)],.func (.func 25) #[] #[.pointer (some ⟨by1,0,none⟩)]]) (C1q (min rs.length us.length) 25 25 _ _ (tF rs) (tF us) _ _ (by omega) (by kernel_rfl) (by kernel_rfl)
  (fun k i' L' hk hi'=>by obtain⟨r,h1,h2⟩:=C0m (rs:=rs) (j:=k) (by omega);rw[h2];exact E4e _ rs k r bx i' L' (ha.le hi') h1 (hi'.blk _ _ gx))
  (fun k i' L' hk hi'=>by obtain⟨r,h1,h2⟩:=C0m (rs:=us) (j:=k) (by omega);rw[h2];exact E4e _ us k r by1 i' L' (hb.le hi') h1 (hi'.blk _ _ gy))) rfl (by kernel_rfl) (by rw[←hmin];rfl) ?_
 rintro _ i L hi ⟨⟨a,rfl,hpa⟩,rfl⟩;replace ha:=ha.le hi;replace hb:=hb.le hi;refine zp rfl ?_;iterate 3 refine zn ?_
 refine zr 5 ?_;have hal:a≤min rs.length us.length:=hpa.1;have hmin2:min (rs.length:Int) (us.length:Int)-(a:Int)=((min rs.length us.length-a:Nat):Int):=by omega
 iterate 3 refine zp rfl ?_
 refine A6 (H3 rfl rfl (by omega)) rfl ?_;iterate 2 refine zp rfl ?_
 refine T6 (bwd_t _ _ _ _ rfl _ _) rfl rfl (by kernel_rfl) rfl ?_;rintro _ i L hi ⟨⟨bz,rfl,gz⟩,rfl⟩;replace ha:=ha.le hi;replace hb:=hb.le hi;iterate 2 refine zp rfl ?_
 refine T6 (bwd_t _ _ _ _ rfl _ _) rfl rfl (by kernel_rfl) rfl ?_;rintro _ i L hi ⟨⟨bw,rfl,gw⟩,rfl⟩;replace ha:=ha.le hi;replace hb:=hb.le hi;replace gz:=hi.blk _ _ gz
 refine A7 (vs:=[.int .i64 ((min rs.length us.length-a:Nat):Int),.func (.func 27) #[] #[.pointer (some ⟨bz,0,none⟩)],.func (.func 27) #[] #[.pointer (some ⟨bw,0,none⟩)]]) (C1q (min rs.length us.length-a) 27 27 _ _ (fun j=>tF rs (rs.length-1-j)) (fun j=>tF us (us.length-1-j)) _ _ (by omega) (by kernel_rfl) (by kernel_rfl)
  (fun k i' L' hk hi'=>by obtain⟨r,h1,h2⟩:=C0m (rs:=rs) (j:=rs.length-1-k) (by omega);simp only[h2];exact E4d _ rs k r bz i' L' (ha.le hi') (by omega) h1 (hi'.blk _ _ gz))
  (fun k i' L' hk hi'=>by obtain⟨r,h1,h2⟩:=C0m (rs:=us) (j:=us.length-1-k) (by omega);simp only[h2];exact E4d _ us k r bw i' L' (hb.le hi') (by omega) h1 (hi'.blk _ _ gw))) rfl (by kernel_rfl) (by rw[←hmin2];rfl) ?_
 rintro _ i L hi ⟨⟨b,rfl,hpb⟩,rfl⟩;iterate 2 refine zp rfl ?_
 refine zn ?_;repeat' (first|refine zn ?_|fail)
 exact⟨⟨a,b,rfl,hpa.congr fun j hj=>(E4c (by omega) (by omega)).symm,hpb.congr fun j hj=>(E4c (by omega) (by omega)).symm⟩,rfl⟩
end Go.Proofs.YtckdkhhpjnefpaaGreatDoor
namespace Go.Eng
open Go
section
variable{P:Program}{n:Nat}{f:Fr}{dst:Option Nat}{ty:TypeId}{pos:String}{B4:Array Edge}{gd:Option (Nat×Bool)}{T:F7}
theorem A3f(hT:T.ok P){t sz l c j m:Nat}{ao:Option Addr}{x y z:Operand}{k k2:IntKind}(hx:ev n f x=.slice ao l c)(hy:ev n f y=.int k (j:Int))(hz:ev n f z=.int k2 (m:Int))(hs:A3v T t=some sz)(ha:(ao=none∧l=0∧c=0)∨∃g,ao=some ⟨g,0,none⟩)(h:j≤m)(h2:m≤c):
 PV P n f ⟨dst,.slice t x (some y) (some z) none,ty,pos,B4,gd⟩ (.slice (X9 ao c j sz) (m-j) (c-j)):=by
 unfold PV;intro w;obtain⟨e,i,z',x',h1,h2',h3,h4,_⟩:=A0h hT hs;have hj:(0:Int)≤(j:Int)∧(j:Int)≤(m:Int):=by omega
 have hm:(0:Int)≤(m:Int)∧(m:Int)≤(c:Int):=by omega
 rcases ha with⟨rfl,rfl,rfl⟩|⟨g,rfl⟩
 ·have:j=0:=by omega
  subst this
  have:m=0:=by omega
  subst this;simp[execOp,hx,hy,hz,F1a,F1v,F0v,F1c,asIntOf,run_underlying h1,sizeOf,E0 h2',X9]
 ·by_cases hc:c=j
  ·simp[execOp,hx,hy,hz,F1a,F1v,F0v,F1c,asIntOf,run_underlying h1,hj,hm,sizeOf,E0 h2',hc,X9,h];omega
  ·simp[execOp,hx,hy,hz,F1a,F1v,F0v,F1c,asIntOf,run_underlying h1,hj,hm,sizeOf,E0 h2',hc,h3,X9,E8,h];try omega
end
end Go.Eng
namespace Go.Proofs.YtckdkhhpjnefpaaGreatDoor
open Go Go.Eng
def RVc(i:Imm)(cs:List Value)(qs:List Rul):Prop:=cs.length=qs.length*3∧∀k r,qs[k]?=some r→B6b i (nth 3 cs k) r
theorem B6b.le{i i':Imm}{l:List Value}{r:Rul}(h:B6b i l r)(hi:i.le i'):B6b i' l r:=by
 obtain⟨ta,tc,e,h5,h6⟩:=h;exact⟨ta,tc,e,h5.le hi,h6⟩
theorem RVc.le{i i':Imm}{cs:List Value}{qs:List Rul}(h:RVc i cs qs)(hi:i.le i'):RVc i' cs qs:=⟨h.1,fun k r hk=>(h.2 k r hk).le hi⟩
theorem RVc.app{i:Imm}{cs ds:List Value}{qs ps:List Rul}(h:RVc i cs qs)(h2:RVc i ds ps):RVc i (cs++ds) (qs++ps):=by
 refine⟨by rw[E9h,E9h,h.1,h2.1,F1f],fun k r hk=>?_⟩;by_cases e:k<qs.length
 ·rw[A7c h.1 e];rw[E9t e] at hk;exact h.2 k r hk
 ·rw[F0r (by omega)] at hk
  have e2:nth 3 (cs++ds) k=nth 3 ds (k-qs.length):=by
   unfold nth;rw[show k*3=cs.length+(k-qs.length)*3 by rw[h.1];omega,List.drop_length_add_append]
  rw[e2];exact h2.2 _ r hk
theorem RVc.sub{i:Imm}{cs:List Value}{qs:List Rul}{a m:Nat}(h:RVc i cs qs)(h1:a≤m)(h2:m≤qs.length):RVc i ((cs.take (m*3)).drop (a*3)) ((qs.take m).drop a):=by
 have hl:=h.1;refine⟨by simp;omega,fun k r hk=>?_⟩
 have hk2:a+k<m:=by
  have:=(E9e.1 hk).1
  simp at this;omega
 rw[F1e,List.getElem?_take_of_lt hk2] at hk
 have e2:nth 3 ((cs.take (m*3)).drop (a*3)) k=nth 3 cs (a+k):=by
  unfold nth;rw[F1u,List.drop_take,List.take_take];have e3:a*3+k*3=(a+k)*3:=by omega
  rw[e3];congr 1;omega
 rw[e2];exact h.2 _ r hk
theorem RVc.one{i:Imm}{cs:List Value}{qs:List Rul}(h:RVc i cs qs):∀c∈cs,c.oneCell'=true:=by
 refine All.cells (R:=fun l=>∃r,B6b i l r) (n:=qs.length) h.1 (fun k hk=>⟨_,h.2 k _ (E9v hk)⟩) ?_;rintro l ⟨r,ta,tc,rfl,_⟩;exact F4 rfl
def V1(rs us:List Rul)(a b:Nat):List Rul:=(rs.take (rs.length-b)).drop a++(us.take (us.length-b)).drop a
theorem Q0.open{i:Imm}{v:Value}{rs:List Rul}(h:Q0 i v rs):∃ao cap cs,v=.slice ao rs.length cap∧Sl i (.slice ao rs.length cap) 3 rs.length cs∧RVc i cs rs∧rs.length≤512∧rs.length≤cap∧((ao=none∧rs.length=0∧cap=0)∨∃g,ao=some ⟨g,0,none⟩):=by
 obtain⟨cs,h1,h2,h3,⟨ao,n,cap,rfl,h4,h5⟩⟩:=h;obtain⟨_,_,e,hl,_⟩:=id h1;cases e;exact⟨ao,cap,cs,rfl,h1,⟨hl,h2⟩,h3,h4,h5⟩
theorem RVc.at{i:Imm}{v:Value}{cs:List Value}{qs:List Rul}{k:Nat}{r:Rul}(hs:Sl i v 3 qs.length cs)(h:RVc i cs qs)(hk:qs[k]?=some r):
 ∃b o c t z cap ta tc,v=.slice (some ⟨b,o,none⟩) qs.length cap∧i.blk b=some (.cells (E9d c) t z)∧(∀d u,[E9z r.file,.int .i64 r.line,.slice ta r.terms.length tc][d]?=some u→c[o+((k:Nat):Int).toNat*3+d]?=some u)∧Sl i (.slice ta r.terms.length tc) 4 r.terms.length (terms r.terms)∧r.terms.length≤1024:=by
 obtain⟨ta,tc,e,h5,h6,_⟩:=h.2 k r hk;obtain⟨b,o,c,t,z,cap,g1,g2,g3,g4⟩:=Sl.nth hs (E9e.1 hk).1 (by omega);rw[e] at g4;exact⟨b,o,c,t,z,cap,ta,tc,g1,g2,g4,h5,h6⟩
theorem C1z(v:Value)(n:Nat)(xs:List Value)(i:Imm)(L:SH)(hv:Sl i v 4 n xs)(hone:∀c∈xs,c.oneCell'=true)(hb:n*48≤140737488355328):
 E6 E9c 57 [v] i L fun v' i' L'=>Sl i' v' 4 n xs∧L'=L:=by
 refine A9n (e:=54) ?_;have hrd:=hv.rd;obtain⟨ao,cap,rfl,hl,hr⟩:=hv;refine A5 Tryz.func57 rfl rfl (by simp) rfl ?_;cases ao with
 |none=>
  have hxs:xs=[]:=by
   rcases hr with h|⟨b,o,cs,t,fz,h,_⟩
   ·exact h
   ·cases h
  subst hxs;have hn:n=0:=by simp at hl;omega
  subst hn;repeat' (first|refine zp rfl ?_|refine zn ?_|refine A2 rfl ?_|refine zs [0,1,2] rfl ?_)
  exact⟨[],J2.nil 54 4,rfl⟩
 |some a=>
  repeat' (first|refine zp rfl ?_|refine zn ?_|refine A0 rfl ?_|refine A3 ?_|refine V9 A1 rfl rfl (fun b=>?_)|(refine B2q A1 (sz:=4) (bytes:=48) (k:=0) (m:=n) (xs:=[]) (news:=xs) rfl rfl rfl ⟨_,rfl,rfl⟩ ⟨_,rfl,rfl,rfl⟩ (by omega) (A4g 54 4 0 b [] rfl) rfl (hrd _) hone (by omega) (by omega) ?_;intro v' O' hO hnil)|refine A6 (A1z (v:=v') (A2c _)) rfl ?_)
  rw[F1b,List.nil_append] at hO;exact⟨O',hO,rfl⟩
theorem E8f(n:Nat)(hn:n≤1000000000000)(i:Imm)(L:SH):E6 E9c 58 [.slice none 0 0,.int .i64 (n:Int)] i L fun v i' L'=>i=i'∧∃O,J2 52 v 3 0 [] O∧L'=O++L:=by
 refine A5 Tryz.func58 rfl rfl (by simp) rfl ?_;have hz:((n:Nat):Int)-((((0:Nat)):Int)-(((0:Nat)):Int))=(n:Int):=by omega
 by_cases h0:n=0
 ·subst h0;repeat' (first|refine zp rfl ?_|refine zn ?_|refine A0 rfl ?_|refine zs [0,1,3,4,6] rfl ?_|refine zf rfl rfl (by omega) rfl ?_|refine A6 (D7p A1 rfl rfl) rfl ?_|refine A6 (H3 rfl rfl (by omega)) rfl ?_|refine A6 (I0 rfl rfl (by omega)) rfl ?_)
  exact⟨rfl,[],J2.nil 52 3,rfl⟩
 ·repeat' (first|refine zp rfl ?_|refine zn ?_|refine A2 rfl ?_|refine A0 rfl ?_|refine A3 ?_|refine zf rfl rfl (by omega) rfl ?_|refine A6 (D7p A1 rfl rfl) rfl ?_|refine A6 (H3 rfl rfl (by omega)) rfl ?_|refine A6 (J4 rfl rfl (by omega)) rfl ?_|refine A6 (S2 A1 rfl rfl rfl (.inl rfl) ⟨by omega,by omega⟩) rfl ?_|refine D3w A1 (sz:=3) (bytes:=48) (m:=n) rfl rfl rfl ⟨_,rfl,rfl⟩ rfl ⟨_,rfl,rfl,rfl⟩ (by omega) (by omega) (by omega) (by omega) (fun b cap cs h1 h2=>?_)|refine A6 (S2 A1 rfl rfl rfl (.inr ⟨_,_,rfl⟩) ⟨by omega,by omega⟩) rfl ?_)
  exact⟨rfl,_,⟨rfl,.inr ⟨b,cap,cs,rfl,E9k _,by simpa using h2,rfl⟩⟩,rfl⟩
abbrev Ch:Type:=Value×Value×Value
def chs(l:List Ch):List Value:=l.flatMap fun c=>[c.1,c.2.1,c.2.2]
theorem D2m:∀(n:Nat)(cs:List Value),cs.length=n*3→∃pl:List Ch,pl.length=n∧chs pl=cs
 |0,cs,h=>⟨[],rfl,by have:cs=[]:=F0t (by simpa using h);rw[this];rfl⟩
 |n+1,cs,h=>by
  match cs,h with
  |a::b::c::l,h=>
   obtain⟨pl,h1,h2⟩:=D2m n l (by simp at h;omega);exact⟨(a,b,c)::pl,by simp[h1],by rw[←h2];rfl⟩
  |[],h=>simp at h
  |[a],h=>simp at h;omega
  |[a,b],h=>simp at h;omega
def A4p(ps:List (Value×List Ch)):Nat:=(ps.map fun p=>p.2.length).sum
theorem E5t(ps:List (Value×List Ch)):(ps.flatMap fun p=>p.2).length=A4p ps:=by simp[A4p,List.length_flatMap]
theorem C1c{ps:List (Value×List Ch)}{k:Nat}{p:Value×List Ch}(h:ps[k]?=some p):A4p (ps.take (k+1))=A4p (ps.take k)+p.2.length:=by
 simp[A4p,List.take_add_one,h]
theorem E6k{ps:List (Value×List Ch)}{k:Nat}{p:Value×List Ch}(h:ps[k]?=some p):(ps.take (k+1)).flatMap (fun p=>p.2)=(ps.take k).flatMap (fun p=>p.2)++p.2:=by
 simp[List.take_add_one,h]
theorem D6e(ps:List (Value×List Ch))(k:Nat):A4p (ps.take k)≤A4p ps:=by
 have h:A4p ps=A4p (ps.take k)+A4p (ps.drop k):=by
  unfold A4p;rw[←List.sum_append,←List.map_append,List.take_append_drop]
 omega
theorem D6w(a b:List Ch):chs (a++b)=chs a++chs b:=by simp[chs]
theorem D4q(ps:List (Value×List Ch))(v:Value)(i:Imm)(L:SH)(hv:Sl i v 1 ps.length (ps.map fun p=>p.1))(hp:∀p∈ps,Sl i p.1 3 p.2.length (chs p.2))(h1c:∀p∈ps,∀c∈chs p.2,c.oneCell'=true)(hn:ps.length≤1000)(hl:A4p ps≤1000000000000):
 E6 E9c 31 [v] i L fun u i' L'=>L'=L∧Sl i' u 3 (ps.flatMap fun p=>p.2).length (chs (ps.flatMap fun p=>p.2)):=by
 refine E6.state (K:=fun u i' L'=>∃O,J2 52 u 3 (ps.flatMap fun p=>p.2).length (chs (ps.flatMap fun p=>p.2)) O∧L'=O++L) ?_ ?_;rotate_left
 ·rintro v i' L' w _ hs ⟨O,hO,rfl⟩;obtain⟨i2,h1,h2,h3⟩:=hO.freeze hs;exact⟨i2,L,h1,h2,rfl,h3⟩
 obtain⟨ao,cap,rfl,-⟩:=id hv;refine A5 Tryz.func31 rfl rfl (by simp) rfl ?_;repeat' (first|refine zp rfl ?_|refine zn ?_|refine zs [0,1,2] rfl ?_)
 refine B1 [0,3,9,10,11] (fun m vs i' L'=>∃k:Nat,m=ps.length-k∧k≤ps.length∧vs=[.slice ao ps.length cap,.int .i64 (A4p (ps.take k):Int),.slice ao ps.length cap,.int .i64 ps.length,.int .i64 (k:Int)]∧i=i'∧L=L') ps.length ⟨0,rfl,E9k _,rfl,rfl,rfl⟩ ?_;rintro m g vs i' L' hi ⟨k,rfl,hk,rfl,rfl,rfl⟩;by_cases hlt:k<ps.length
 ·obtain⟨b1,o1,c1,t1,z1,p1,e1,g1,h1⟩:=hv.at hlt (by omega);cases e1;obtain⟨⟨pv,pl⟩,hpk⟩:∃p,ps[k]?=some p:=⟨_,E9v hlt⟩;have q1:=h1 0 (by omega);rw[show(ps.map fun p=>p.1)[k*1+0]?=some pv by simp[hpk]] at q1;have hs:Sl i pv 3 pl.length (chs pl):=hp _ (E9g hpk);obtain⟨pa,pc,rfl,-⟩:=id hs;have hlk:=C1c hpk;have hle:=D6e ps (k+1);simp only at hlk;repeat' (first|refine zp rfl ?_|refine zn ?_|refine A2 rfl ?_|refine A0 rfl ?_|refine zs [3,4,5,6,8] rfl ?_|refine zt rfl rfl (by omega) rfl ?_|refine zx rfl rfl rfl (by omega) rfl ?_|refine zm g1 q1 rfl rfl rfl ?_|refine zd rfl rfl (by omega) rfl ?_|refine zf rfl rfl (by omega) rfl ?_)
  exact⟨ps.length-(k+1),by omega,k+1,rfl,hlt,by rw[hlk];rfl,rfl,rfl⟩
 ·have:k=ps.length:=by omega
  subst this;rw[List.take_length];repeat' (first|refine zp rfl ?_|refine zn ?_|refine A0 rfl ?_|refine zs [3,9,10] rfl ?_|refine zf rfl rfl (by omega) rfl ?_|(refine A7 (E8f (A4p ps) hl _ _) rfl (by kernel_rfl) rfl ?_;rintro v i2 L2 hi2 ⟨rfl,O,hO,rfl⟩;obtain⟨ga,gc,rfl⟩:=J2.shape hO))
  refine B1 [6,25,26,27] (fun m vs i' L'=>∃(k:Nat)(O:SH)(oa:Option Addr)(oc:Nat),m=ps.length-k∧k≤ps.length∧J2 52 (.slice oa (A4p (ps.take k)) oc) 3 (A4p (ps.take k)) (chs ((ps.take k).flatMap fun p=>p.2)) O∧vs=[.slice oa (A4p (ps.take k)) oc,.slice ao ps.length cap,.int .i64 ps.length,.int .i64 (k:Int)]∧i=i'∧L'=O++L) ps.length ⟨0,O,ga,gc,rfl,E9k _,hO,rfl,rfl,rfl⟩ ?_;rintro m g vs i' L' hi ⟨k,O,oa,oc,rfl,hk,hO,rfl,rfl,rfl⟩;by_cases hlt:k<ps.length
  ·obtain⟨b1,o1,c1,t1,z1,p1,e1,g1,h1⟩:=hv.at hlt (by omega);cases e1;obtain⟨⟨pv,pl⟩,hpk⟩:∃p,ps[k]?=some p:=⟨_,E9v hlt⟩;have q1:=h1 0 (by omega);rw[show(ps.map fun p=>p.1)[k*1+0]?=some pv by simp[hpk]] at q1;have hs:Sl i pv 3 pl.length (chs pl):=hp _ (E9g hpk);obtain⟨pa,pc,rfl,-⟩:=id hs;have hlk:=C1c hpk;have hle:=D6e ps (k+1);have hck:=E6k hpk;simp only at hlk hck;repeat' (first|refine zp rfl ?_|refine zn ?_|refine A2 rfl ?_|refine zs [11,12,13,14] rfl ?_|refine zt rfl rfl (by omega) rfl ?_|refine zx rfl rfl rfl (by omega) rfl ?_|refine zm g1 q1 rfl rfl rfl ?_|(refine B2q A1 (sz:=3) (bytes:=48) (k:=A4p (ps.take k)) (m:=pl.length) (xs:=chs ((ps.take k).flatMap (fun p:Value×List Ch=>p.2))) (news:=chs pl) rfl rfl rfl ⟨_,rfl,rfl⟩ ⟨_,rfl,rfl,rfl⟩ (by omega) hO rfl (hs.rd _) (h1c _ (E9g hpk)) (by omega) (by omega) ?_;intro v' O' hO' hnil;obtain⟨oa',oc',rfl⟩:=J2.shape hO';have hlen':=hO')|refine zd rfl rfl (by omega) rfl ?_)
   exact⟨ps.length-(k+1),by omega,k+1,O',oa',oc',rfl,hlt,by rw[hlk,hck,D6w];exact hO',by rw[hlk];rfl,rfl,rfl⟩
  ·have:k=ps.length:=by omega
   subst this;rw[List.take_length] at hO⊢;repeat' (first|refine zp rfl ?_|refine zn ?_|refine A0 rfl ?_|refine zs [11,15] rfl ?_|refine zf rfl rfl (by omega) rfl ?_)
   refine⟨O,?_,rfl⟩;rw[E5t];exact hO
theorem RVc.single{i:Imm}{l:List Value}{r:Rul}(h:B6b i l r):RVc i l [r]:=by
 have hl:l.length=3:=by obtain⟨ta,tc,rfl,_⟩:=h;rfl
 refine⟨by simp[hl],fun k r' hk=>?_⟩;have hk0:k=0:=by have:=(E9e.1 hk).1;simp at this;exact this
 subst hk0;simp at hk;subst hk;have e:nth 3 l 0=l:=by unfold nth;rw[Nat.zero_mul,List.drop_zero,←hl,List.take_length]
 rw[e];exact h
theorem D3t(v:Value)(qs:List Rul)(cs:List Value)(i:Imm)(L:SH)(hs:Sl i v 3 qs.length cs)(ha:RVc i cs qs)(hn:qs.length≤2000):
 E6 E9c 30 [v] i L fun v' i' L'=>(∃ds,Sl i' v' 3 qs.length ds∧RVc i' ds qs)∧L'=L:=by
 refine E6.drop ?_;obtain⟨ao,cap,rfl,_⟩:=id hs;refine A5 Tryz.func30 rfl rfl (by simp) rfl ?_;repeat' (first|refine zp rfl ?_|refine zn ?_|refine zs [0,1,2] rfl ?_)
 refine B1 [3,6,7,8] (fun m vs i' L9=>∃(k:Nat)(a2:Option Addr)(c2:Nat)(ds:List Value)(O G:SH),m=qs.length-k∧k≤qs.length∧vs=[.slice a2 k c2,.slice ao qs.length cap,.int .i64 (qs.length:Int),.int .i64 (k:Int)]∧J2 52 (.slice a2 k c2) 3 k ds O∧RVc i' ds (qs.take k)∧Sl i' (.slice ao qs.length cap) 3 qs.length cs∧RVc i' cs qs∧L9=G++(O++L)) _ ⟨0,_,_,[],[],[],rfl,E9k _,rfl,J2.nil _ _,⟨rfl,fun k r h=>by simp at h⟩,hs,ha,rfl⟩ ?_;clear hs ha;rintro m g vs i _ hi ⟨k,a2,c2,ds,O,G,rfl,hk,rfl,hO,hd,hs,ha,rfl⟩;by_cases hlt:k<qs.length
 ·obtain⟨r,hr⟩:=zi qs k hlt;obtain⟨b1,o1,c1,t1,z1,p1,ta1,tc1,e1,g1,q1,hs1,hn1⟩:=RVc.at hs ha hr;cases e1;have hri:=ha.2 k r hr;obtain⟨_,_,_,_,_,hsm1,hfs1⟩:=hri;repeat' (first|refine zn ?_|refine A2 rfl ?_|refine zr 3 ?_|refine zt rfl rfl (by omega) rfl ?_)
  refine zr 4 ?_;refine zx rfl rfl rfl (by omega) rfl ?_;refine D4 (D9 (l:=[.string r.file,.int .i64 r.line,.slice ta1 r.terms.length tc1]) A1 rfl (Has.imm g1) rfl rfl rfl q1) rfl ?_;refine C1 A1 rfl rfl (fun b5=>?_);refine zw 0 rfl rfl rfl rfl ?_;refine zn ?_;repeat' (first|refine zn ?_|fail)
  refine zr 5 ?_;refine zp rfl ?_;refine zo 0 rfl rfl rfl rfl ?_;refine A7 (C1z _ r.terms.length (terms r.terms) _ _ hs1 (B2a _) (by omega)) rfl (by kernel_rfl) rfl ?_;rintro w i2 _ hi2 ⟨hw,rfl⟩;obtain⟨aw,cw,rfl,_⟩:=id hw;refine zp rfl ?_;refine zw 0 rfl rfl rfl rfl ?_;refine zn ?_;repeat' (first|refine zn ?_|fail)
  refine zr 6 ?_;refine zp rfl ?_;refine zo 0 rfl rfl rfl rfl ?_;refine A8 A1 3 rfl (J6 (cs:=[.string r.file,.int .i64 r.line,.slice aw r.terms.length cw]) rfl rfl rfl rfl (by decide) (by decide) rfl) rfl (fun b8 i3 hi3 hbs=>?_);refine H7 (D8 (_::G) A1 (sz:=3) (bytes:=48) (m:=1) rfl rfl hO (hbs.rd _) ⟨_,rfl,rfl⟩ ⟨_,rfl,rfl,rfl⟩ (by omega) (F4 rfl) (by omega) (by omega)) rfl ?_;rintro _ i4 _ hi4 ⟨O',⟨ao',cap',rfl,hO'⟩,rfl⟩;replace hi3:=hi3.trans hi4;replace hi4:=hi2.trans hi3;refine zp rfl ?_;refine zn ?_;repeat' (first|refine zp rfl ?_|refine zn ?_|refine A3 ?_|refine zd rfl rfl (by omega) rfl ?_)
  have e1:qs.take (k+1)=qs.take k++[r]:=by rw[List.take_add_one,hr];rfl
  exact⟨qs.length-(k+1),by omega,k+1,ao',cap',_,O',_::G,rfl,hlt,rfl,hO',by rw[e1];exact(hd.le hi4).app (RVc.single ⟨aw,cw,rfl,hw.le hi3,hn1,hsm1,hfs1⟩),hs.le hi4,ha.le hi4,rfl⟩
 ·obtain rfl:k=qs.length:=by omega
  repeat' (first|refine zn ?_|refine A0 rfl ?_|refine zr 3 ?_|refine zf rfl rfl (by omega) rfl ?_)
  refine F6 hO (L0:=G++L) (E9x G O L) (fun i4 hi4 hs4=>?_);repeat' (first|refine zp rfl ?_|refine zn ?_|refine A3 ?_)
  rw[List.take_length] at hd;exact⟨G,⟨ds,hs4,hd.le hi4⟩,rfl⟩
theorem D3r(v:Value)(qs:List Rul)(cs:List Value)(i:Imm)(L:SH)(hs:Sl i v 3 qs.length cs)(ha:RVc i cs qs)(hn:qs.length≤2000):
 E6 E9c 72 [v] i L fun v' i' L'=>(∃ds,Sl i' v' 3 qs.length ds∧RVc i' ds qs)∧L'=L:=by
 refine E6.drop ?_;obtain⟨ao,cap,rfl,_⟩:=id hs;refine A5 Tryz.func72 rfl rfl (by simp) rfl ?_;repeat' (first|refine zp rfl ?_|refine zn ?_|refine zs [0,1,2] rfl ?_)
 refine B1 [3,6,7,8] (fun m vs i' L9=>∃(k:Nat)(a2:Option Addr)(c2:Nat)(ds:List Value)(O G:SH),m=qs.length-k∧k≤qs.length∧vs=[.slice a2 k c2,.slice ao qs.length cap,.int .i64 (qs.length:Int),.int .i64 (k:Int)]∧J2 52 (.slice a2 k c2) 3 k ds O∧RVc i' ds (qs.take k)∧Sl i' (.slice ao qs.length cap) 3 qs.length cs∧RVc i' cs qs∧L9=G++(O++L)) _ ⟨0,_,_,[],[],[],rfl,E9k _,rfl,J2.nil _ _,⟨rfl,fun k r h=>by simp at h⟩,hs,ha,rfl⟩ ?_;clear hs ha;rintro m g vs i _ hi ⟨k,a2,c2,ds,O,G,rfl,hk,rfl,hO,hd,hs,ha,rfl⟩;by_cases hlt:k<qs.length
 ·obtain⟨r,hr⟩:=zi qs k hlt;obtain⟨b1,o1,c1,t1,z1,p1,ta1,tc1,e1,g1,q1,hs1,hn1⟩:=RVc.at hs ha hr;cases e1;have hri:=ha.2 k r hr;obtain⟨_,_,_,_,_,hsm1,hfs1⟩:=hri;repeat' (first|refine zn ?_|refine A2 rfl ?_|refine zr 3 ?_|refine zt rfl rfl (by omega) rfl ?_)
  refine zr 4 ?_;refine zx rfl rfl rfl (by omega) rfl ?_;refine D4 (D9 (l:=[.string r.file,.int .i64 r.line,.slice ta1 r.terms.length tc1]) A1 rfl (Has.imm g1) rfl rfl rfl q1) rfl ?_;refine C1 A1 rfl rfl (fun b5=>?_);refine zw 0 rfl rfl rfl rfl ?_;refine zn ?_;repeat' (first|refine zn ?_|fail)
  refine zr 5 ?_;refine zp rfl ?_;refine zo 0 rfl rfl rfl rfl ?_;refine A7 (C1z _ r.terms.length (terms r.terms) _ _ hs1 (B2a _) (by omega)) rfl (by kernel_rfl) rfl ?_;rintro w i2 _ hi2 ⟨hw,rfl⟩;obtain⟨aw,cw,rfl,_⟩:=id hw;refine zp rfl ?_;refine zw 0 rfl rfl rfl rfl ?_;refine zn ?_;repeat' (first|refine zn ?_|fail)
  refine zr 6 ?_;refine zp rfl ?_;refine zo 0 rfl rfl rfl rfl ?_;refine A8 A1 3 rfl (J6 (cs:=[.string r.file,.int .i64 r.line,.slice aw r.terms.length cw]) rfl rfl rfl rfl (by decide) (by decide) rfl) rfl (fun b8 i3 hi3 hbs=>?_);refine H7 (D8 (_::G) A1 (sz:=3) (bytes:=48) (m:=1) rfl rfl hO (hbs.rd _) ⟨_,rfl,rfl⟩ ⟨_,rfl,rfl,rfl⟩ (by omega) (F4 rfl) (by omega) (by omega)) rfl ?_;rintro _ i4 _ hi4 ⟨O',⟨ao',cap',rfl,hO'⟩,rfl⟩;replace hi3:=hi3.trans hi4;replace hi4:=hi2.trans hi3;refine zp rfl ?_;refine zn ?_;repeat' (first|refine zp rfl ?_|refine zn ?_|refine A3 ?_|refine zd rfl rfl (by omega) rfl ?_)
  have e1:qs.take (k+1)=qs.take k++[r]:=by rw[List.take_add_one,hr];rfl
  exact⟨qs.length-(k+1),by omega,k+1,ao',cap',_,O',_::G,rfl,hlt,rfl,hO',by rw[e1];exact(hd.le hi4).app (RVc.single ⟨aw,cw,rfl,hw.le hi3,hn1,hsm1,hfs1⟩),hs.le hi4,ha.le hi4,rfl⟩
 ·obtain rfl:k=qs.length:=by omega
  repeat' (first|refine zn ?_|refine A0 rfl ?_|refine zr 3 ?_|refine zf rfl rfl (by omega) rfl ?_)
  refine F6 hO (L0:=G++L) (E9x G O L) (fun i4 hi4 hs4=>?_);repeat' (first|refine zp rfl ?_|refine zn ?_|refine A3 ?_)
  rw[List.take_length] at hd;exact⟨G,⟨ds,hs4,hd.le hi4⟩,rfl⟩
def RVn(i:Imm)(v:Value)(qs:List Rul):Prop:=∃ds,Sl i v 3 qs.length ds∧RVc i ds qs
theorem RVn.mono(qs:List Rul):A4q fun i v=>RVn i v qs:=fun _ _ hi _ ⟨ds,h1,h2⟩=>⟨ds,h1.le hi,h2.le hi⟩
theorem D1k(va vb:Value)(rs us:List Rul)(i:Imm)(L:SH)(ha:Q0 i va rs)(hb:Q0 i vb us):
 E6 E9c 10 [va,vb] i L fun v i' L'=>(∃(a b:Nat),S3 (eF rs us) (min rs.length us.length) a∧S3 (eB rs us) (min rs.length us.length-a) b∧RVn i' v (V1 rs us a b))∧L'=L:=by
 obtain⟨aa,ac,ca,rfl,hsa,hva,ha5,hac,haa⟩:=ha.open;obtain⟨ba,bc,cb,rfl,hsb,hvb,hb5,hbc,hba⟩:=hb.open;refine A5 Tryz.func10 rfl rfl (by simp) rfl ?_;repeat' (first|refine zp rfl ?_|refine zn ?_|refine zs [0,1] rfl ?_|(refine A7 (E0z _ _ rs us _ _ ha hb) rfl (by kernel_rfl) rfl ?_;rintro _ i L hi ⟨⟨a,b,rfl,hpa,hpb⟩,rfl⟩;replace hsa:=hsa.le hi;replace hsb:=hsb.le hi;replace hva:=hva.le hi;replace hvb:=hvb.le hi))
 have h1:=hpa.1;have h2:=hpb.1;have sa:=A0y (k:=a) (Y7 (k:=rs.length-b) hsa (by omega)) ⟨_,_,_,rfl,by omega,haa.elim (fun h=>.inl ⟨h.1,by omega,h.2.2⟩) .inr⟩ (by omega);have sb:=A0y (k:=a) (Y7 (k:=us.length-b) hsb (by omega)) ⟨_,_,_,rfl,by omega,hba.elim (fun h=>.inl ⟨h.1,by omega,h.2.2⟩) .inr⟩ (by omega);have ra:=hva.sub (a:=a) (m:=rs.length-b) (by omega) (by omega);have rb:=hvb.sub (a:=a) (m:=us.length-b) (by omega) (by omega);obtain⟨pl1,hp1,hc1⟩:=D2m (rs.length-b-a) _ (by obtain⟨_,_,_,h,_⟩:=sa;exact h);obtain⟨pl2,hp2,hc2⟩:=D2m (us.length-b-a) _ (by obtain⟨_,_,_,h,_⟩:=sb;exact h);have hlen:(pl1++pl2).length=(V1 rs us a b).length:=by rw[E9h,hp1,hp2];simp[V1]<;>omega
 refine F9 J9 [0,1,2,3,4,5,6,7,8,9,10,11,12,13,14,15,16] [17] [] (fun _=>True) (fun L9=>L9=L) (by kernel_rfl) (by decide) rfl trivial rfl ?_;iterate 3 refine zg rfl rfl rfl ?_
 refine zg rfl rfl rfl ?_;refine zg rfl rfl rfl ?_;refine E7 (H3 rfl rfl (by omega)) rfl rfl rfl rfl rfl rfl ?_;refine E7 (A3f (j:=a) (m:=rs.length-b) A1 rfl rfl (by show F0u IntKind.i64 ((rs.length:Int)-(b:Int))=_;congr 1;omega) rfl haa (by omega) (by omega)) rfl rfl rfl rfl rfl rfl ?_;iterate 3 refine zg rfl rfl rfl ?_
 refine zg rfl rfl rfl ?_;refine zg rfl rfl rfl ?_;refine E7 (H3 rfl rfl (by omega)) rfl rfl rfl rfl rfl rfl ?_;refine E7 (A3f (j:=a) (m:=us.length-b) A1 rfl rfl (by show F0u IntKind.i64 ((us.length:Int)-(b:Int))=_;congr 1;omega) rfl hba (by omega) (by omega)) rfl rfl rfl rfl rfl rfl ?_;refine S8 A1 1 (e:=26) rfl rfl rfl rfl rfl rfl ?_
 refine C4 (fun i v=>RVn i v (V1 rs us a b)) (RVn.mono _) rfl rfl rfl rfl (fun i2 hi2 L9 _=>by
  rintro v ⟨b9,rfl,h9⟩;refine⟨rfl,D2 (by kernel_rfl) rfl (D4q [(_,pl1),(_,pl2)] _ i2 L9 h9 ?_ ?_ (by simp) (by simp[A4p];omega)) ?_⟩
  ·intro p hp;simp at hp;rcases hp with rfl|rfl
   ·simp only[hp1,hc1];exact sa.le hi2
   ·simp only[hp2,hc2];exact sb.le hi2
  ·intro p hp;simp at hp;rcases hp with rfl|rfl
   ·simp only[hc1];exact ra.one
   ·simp only[hc2];exact rb.one
  ·rintro u i3 L3 hi3 ⟨rfl,h3⟩;have e2:=D6w pl1 pl2;rw[hc1,hc2] at e2;simp only[List.flatMap_cons,List.flatMap_nil,List.append_nil] at h3;rw[e2,hlen] at h3;refine⟨rfl,_,h3,?_⟩;exact((ra.app rb).le (hi2.trans hi3))) ?_
 refine C4 (fun i v=>RVn i v (V1 rs us a b)) (RVn.mono _) rfl rfl rfl rfl (fun i2 hi2 L9 _=>by
  rintro v ⟨ds,hds,hrd⟩;exact⟨rfl,D2 (by kernel_rfl) rfl (D3t v (V1 rs us a b) ds i2 L9 hds hrd (by rw[←hlen,E9h,hp1,hp2];omega)) (fun _ _ _ _ ⟨h,h'⟩=>⟨h',h⟩)⟩) ?_
 refine G1 rfl rfl (fun i2 L2 hi2 _ hA=>?_);subst hA;rintro w ⟨ds,hds,hrd⟩ w2-w3-;obtain⟨a9,c9,rfl,_⟩:=id hds;refine zp rfl ?_;refine zn ?_;repeat' (first|refine zn ?_|fail)
 exact⟨⟨a,b,hpa,hpb,ds,hds,hrd⟩,rfl⟩
theorem A8y.shape{i:Imm}{l:List Value}(h:A8y i l):∃(a1 a2 a3 a4 a5 a6 a7 a8:Option Addr)(n1 c1 n2 c2 n3 c3 n4 c4 n5 c5 n6 c6 n7 c7 n8 c8:Nat)(lim:Int),l=[.slice a1 n1 c1,.slice a2 n2 c2,.slice a3 n3 c3,.slice a4 n4 c4,.slice a5 n5 c5,.slice a6 n6 c6,.slice a7 n7 c7,.slice a8 n8 c8,.int .i64 lim]:=by
 obtain⟨d,h,m,b,o,k,e,p,lim,rfl,⟨_,_,⟨a1,c1,rfl,_⟩,_⟩,⟨_,_,⟨a2,c2,rfl,_⟩,_⟩,⟨_,_,⟨a3,c3,rfl,_⟩,_⟩,⟨_,_,_,rfl,_⟩,⟨_,_,_,rfl,_⟩,⟨_,_,_,rfl,_⟩,⟨_,_,_,rfl,_⟩,⟨_,⟨a8,c8,rfl,_⟩,_⟩⟩:=h;exact⟨_,_,_,_,_,_,_,_,_,_,_,_,_,_,_,_,_,_,_,_,_,_,_,_,_,rfl⟩
structure Dev where
 index:Int
 parent:Int
 name:ByteArray
 original:ByteArray
 subsystem:ByteArray
 driver:ByteArray
 alias:ByteArray
 kind:Int
 number:Int
 attrs:List (ByteArray×ByteArray)
def A6u(p:ByteArray×ByteArray):List Value:=[.string p.1,.string p.2]
def attrs(l:List (ByteArray×ByteArray)):List Value:=l.flatMap A6u
theorem B2n:∀l:List (ByteArray×ByteArray),(attrs l).length=l.length*2
 |[]=>rfl
 |a::l=>by
  have h:=B2n l;have e:attrs (a::l)=A6u a++attrs l:=rfl;rw[e,E9h,h,F1h];simp[A6u];omega
theorem S1(l:List (ByteArray×ByteArray))(t:ByteArray×ByteArray):attrs (l++[t])=attrs l++A6u t:=by simp[attrs]
theorem C9p{l:List (ByteArray×ByteArray)}{k:Nat}{t:ByteArray×ByteArray}(h:l[k]?=some t)(d:Nat)(hd:d<2):(attrs l)[k*2+d]?=(A6u t)[d]?:=by
 obtain⟨A,B,rfl,rfl⟩:=A0v h;have e:attrs (A++t::B)=attrs A++(A6u t++attrs B):=by simp[attrs]
 rw[e,F0r (by rw[B2n];omega),B2n,Nat.add_sub_cancel_left,E9t (by simpa [A6u] using hd)]
def B1v(p:ByteArray×ByteArray):Prop:=p.1.size≤64∧p.2.size≤64
def S7(i:Imm)(v:Value)(l:List (ByteArray×ByteArray)):Prop:=Sl i v 2 l.length (attrs l)∧l.length≤20∧∀p∈l,B1v p
theorem S7.le{i i':Imm}{v:Value}{l:List (ByteArray×ByteArray)}(h:S7 i v l)(hi:i.le i'):S7 i' v l:=⟨h.1.le hi,h.2⟩
def W4(d:Dev)(a:Value):List Value:=[.int .i64 d.index,.int .i64 d.parent,.string d.name,.string d.original,.string d.subsystem,.string d.driver,.string d.alias,.int .i64 d.kind,.int .i64 d.number,a]
structure Dev.ok(d:Dev):Prop where
 ix:1≤d.index∧d.index≤1000
 pa:0≤d.parent∧d.parent≤1000
 nm:d.name.size≤64
 og:d.original.size≤64
 su:d.subsystem.size≤64
 dr:d.driver.size≤64
 al:d.alias.size≤64
def R6(i:Imm)(l:List Value)(d:Dev):Prop:=∃ao cap,l=W4 d (.slice ao d.attrs.length cap)∧S7 i (.slice ao d.attrs.length cap) d.attrs∧d.ok
theorem R6.le{i i':Imm}{l:List Value}{d:Dev}(h:R6 i l d)(hi:i.le i'):R6 i' l d:=let⟨a,c,h1,h2,h3⟩:=h;⟨a,c,h1,h2.le hi,h3⟩
def DVc(i:Imm)(cs:List Value)(ds:List Dev):Prop:=cs.length=ds.length*10∧∀k d,ds[k]?=some d→R6 i (nth 10 cs k) d
theorem DVc.le{i i':Imm}{cs:List Value}{ds:List Dev}(h:DVc i cs ds)(hi:i.le i'):DVc i' cs ds:=⟨h.1,fun k r hk=>(h.2 k r hk).le hi⟩
theorem DVc.app{i:Imm}{cs es:List Value}{ds ps:List Dev}(h:DVc i cs ds)(h2:DVc i es ps):DVc i (cs++es) (ds++ps):=by
 refine⟨by rw[E9h,E9h,h.1,h2.1,F1f],fun k r hk=>?_⟩;by_cases e:k<ds.length
 ·rw[A7c h.1 e];rw[E9t e] at hk;exact h.2 k r hk
 ·rw[F0r (by omega)] at hk
  have e2:nth 10 (cs++es) k=nth 10 es (k-ds.length):=by
   unfold nth;rw[show k*10=cs.length+(k-ds.length)*10 by rw[h.1];omega,List.drop_length_add_append]
  rw[e2];exact h2.2 _ r hk
theorem DVc.single{i:Imm}{l:List Value}{d:Dev}(h:R6 i l d):DVc i l [d]:=by
 have hl:l.length=10:=by obtain⟨_,_,rfl,_⟩:=h;rfl
 refine⟨by simp[hl],fun k r hk=>?_⟩;cases k with
 |zero=>
  cases hk
  have:nth 10 l 0=l:=by unfold nth;simp[List.take_of_length_le (Nat.le_of_eq hl)]
  rw[this];exact h
 |succ k=>cases hk
theorem DVc.sub{i:Imm}{cs:List Value}{ds:List Dev}{a m:Nat}(h:DVc i cs ds)(h1:a≤m)(h2:m≤ds.length):DVc i ((cs.take (m*10)).drop (a*10)) ((ds.take m).drop a):=by
 have hl:=h.1;refine⟨by simp;omega,fun k r hk=>?_⟩
 have hk2:a+k<m:=by
  have:=(E9e.1 hk).1
  simp at this;omega
 rw[F1e,List.getElem?_take_of_lt hk2] at hk
 have e2:nth 10 ((cs.take (m*10)).drop (a*10)) k=nth 10 cs (a+k):=by
  unfold nth;rw[F1u,List.drop_take,List.take_take];have e3:a*10+k*10=(a+k)*10:=by omega
  rw[e3];congr 1;omega
 rw[e2];exact h.2 _ r hk
theorem B7w(d:Dev)(a:Option Addr)(n c:Nat):∀u∈W4 d (.slice a n c),u.oneCell'=true:=F4 rfl
theorem DVc.one{i:Imm}{cs:List Value}{ds:List Dev}(h:DVc i cs ds):∀c∈cs,c.oneCell'=true:=by
 refine All.cells (R:=fun l=>∃d,R6 i l d) (n:=ds.length) h.1 (fun k hk=>⟨_,h.2 k _ (E9v hk)⟩) ?_;rintro l ⟨d,ta,tc,rfl,_⟩;exact B7w _ _ _ _
def V4(i:Imm)(v:Value)(ds:List Dev):Prop:=∃cs,Sl i v 10 ds.length cs∧DVc i cs ds∧ds.length≤256
theorem V4.le{i i':Imm}{v:Value}{ds:List Dev}(h:V4 i v ds)(hi:i.le i'):V4 i' v ds:=let⟨cs,h1,h2,h3⟩:=h;⟨cs,h1.le hi,h2.le hi,h3⟩
theorem V4.at{i:Imm}{v:Value}{ds:List Dev}{k:Nat}{d:Dev}(h:V4 i v ds)(hk:ds[k]?=some d):
 ∃b o c t z cap ta tc,v=.slice (some ⟨b,o,none⟩) ds.length cap∧i.blk b=some (.cells (E9d c) t z)∧(∀j u,(W4 d (.slice ta d.attrs.length tc))[j]?=some u→c[o+((k:Nat):Int).toNat*10+j]?=some u)∧S7 i (.slice ta d.attrs.length tc) d.attrs∧d.ok:=by
 obtain⟨cs,h1,h2,h3⟩:=h;obtain⟨ta,tc,e,h5,h6⟩:=h2.2 k d hk;obtain⟨b,o,c,t,z,cap,g1,g2,g3,g4⟩:=Sl.nth h1 (E9e.1 hk).1 (by omega);rw[e] at g4;exact⟨b,o,c,t,z,cap,ta,tc,g1,g2,g4,h5,h6⟩
def dvs(ds:List Dev):List Clo.Dv:=ds.map fun d=>⟨d.index,d.parent⟩
theorem A3m(ds:List Dev)(k:Nat):(dvs ds)[k]?=ds[k]?.map fun d=>⟨d.index,d.parent⟩:=by simp[dvs]
theorem C4f(ds:List Dev):(dvs ds).length=ds.length:=by simp[dvs]
def I3(l:List Int):List Value:=l.map (F0u .i64)
theorem C1d(l:List Int):(I3 l).length=l.length:=by simp[I3]
theorem A8b(l:List Int):∀c∈I3 l,c.oneCell'=true:=by
 intro c hc;obtain⟨s,_,rfl⟩:=F1k.1 hc;rfl
theorem T8(l:List Int)(x:Int):I3 (l++[x])=I3 l++[.int .i64 x]:=by simp[I3]
def A0u(i:Imm)(v:Value)(l:List Int):Prop:=Sl i v 1 l.length (I3 l)∧l.length≤1000000
theorem A0u.le{i i':Imm}{v:Value}{l:List Int}(h:A0u i v l)(hi:i.le i'):A0u i' v l:=⟨h.1.le hi,h.2⟩
theorem A0u.at{i:Imm}{v:Value}{l:List Int}{k:Nat}{y:Int}(h:A0u i v l)(hy:l[k]?=some y):∃b o c t z cap,v=.slice (some ⟨b,o,none⟩) l.length cap∧i.blk b=some (.cells (E9d c) t z)∧c[o+((k:Nat):Int).toNat*1+0]?=some (.int .i64 y):=by
 obtain⟨b1,o1,c1,t1,z1,p1,e1,g1,h1⟩:=h.1.at (E9e.1 hy).1 (by omega);exact⟨b1,o1,c1,t1,z1,p1,e1,g1,by rw[h1 0 (by omega)];simp[I3,hy]⟩
theorem S0{α:Type}{l:List α}{k:Nat}{y:α}{φ:α→Prop}(hy:l[k]?=some y)(h:φ y)(hpre:∀(j:Nat)(z:α),j<k→l[j]?=some z→φ z):∀(j:Nat)(z:α),j<k+1→l[j]?=some z→φ z:=fun j z hj hz=>by
 rcases F0m.1 hj with hj|rfl
 ·exact hpre j z hj hz
 ·rw[hy] at hz;cases hz;exact h
theorem U0{α:Type}{l:List α}{φ:α→Prop}:∀(j:Nat)(z:α),j<0→l[j]?=some z→φ z:=fun j z h=>absurd h (by omega)
theorem A4u{α:Type}{l:List α}{k:Nat}{φ:α→Prop}(hk:l.length≤k)(hpre:∀(j:Nat)(z:α),j<k→l[j]?=some z→φ z):∀(j:Nat)(z:α),l[j]?=some z→φ z:=fun j z hz=>hpre j z (by have:=(E9e.1 hz).1;omega) hz
theorem In_t(v:Value)(l:List Int)(x:Int)(i:Imm)(L:SH)(hv:A0u i v l):
 E6 E9c 17 [v,.int .i64 x] i L fun r i' L'=>r=.bool (decide (x∈l))∧i'=i∧L'=L:=by
 obtain⟨ao,cap,rfl,_⟩:=id hv.1;have hn:=hv.2;refine A5 Tryz.func17 rfl rfl (by simp) rfl ?_;repeat' (first|refine zp rfl ?_|refine zn ?_|refine zs [0,1] rfl ?_)
 refine B1 [0,1,5] (fun m vs i' L'=>∃k:Nat,m=l.length-k∧k≤l.length∧(∀(j:Nat)(y:Int),j<k→l[j]?=some y→y≠x)∧vs=[.slice ao l.length cap,.int .i64 x,.int .i64 (k:Int)]∧i'=i∧L'=L) l.length ⟨0,rfl,E9k _,U0,rfl,rfl,rfl⟩ ?_;rintro m g vs i' L' hi ⟨k,rfl,hk,hpre,rfl,rfl,rfl⟩;by_cases hlt:k<l.length
 ·obtain⟨y,hy⟩:=zi l k hlt;obtain⟨b1,o1,c1,t1,z1,p1,e1,g1,q1⟩:=hv.at hy;cases e1;repeat' (first|refine zp rfl ?_|refine zn ?_|refine A2 rfl ?_|refine A0 rfl ?_|refine zs [2,3,4,5] rfl ?_|refine zt rfl rfl (by omega) rfl ?_|refine zd rfl rfl (by omega) rfl ?_|refine zx rfl rfl rfl (by omega) rfl ?_|refine zm g1 q1 rfl rfl rfl ?_|refine E1 rfl rfl rfl (fun h=>?_) (fun h=>?_))
  ·subst h;exact⟨congrArg F0x (decide_eq_true (E9g hy)).symm,rfl,rfl⟩
  ·exact⟨l.length-(k+1),by omega,k+1,rfl,by omega,S0 hy h hpre,rfl,rfl,rfl⟩
 ·repeat' (first|refine zp rfl ?_|refine zn ?_|refine A0 rfl ?_|refine zs [2,6] rfl ?_|refine zf rfl rfl (by omega) rfl ?_)
  exact⟨congrArg F0x (decide_eq_false fun hm=>by
   obtain⟨j,hj⟩:=F0j.1 hm;exact A4u (by omega) hpre j x hj rfl).symm,rfl,rfl⟩
theorem D3v(v w:Value)(l:List Int)(i:Imm)(L:SH)(hv:A0u i v l)(hw:A0u i w l):
 E6 E9c 14 [v,w] i L fun r i' L'=>r=.bool true∧i'=i∧L'=L:=by
 obtain⟨ao,cap,rfl,_⟩:=id hv.1;obtain⟨ao2,cap2,rfl,_⟩:=id hw.1;have hn:=hv.2;refine A5 Tryz.func14 rfl rfl (by simp) rfl ?_;repeat' (first|refine zp rfl ?_|refine zn ?_|refine A0 rfl ?_|refine zs [0,1,3] rfl ?_|refine A6 (T3 rfl rfl (by omega)) rfl ?_)
 refine B1 [0,1,5] (fun m vs i' L'=>∃k:Nat,m=l.length-k∧k≤l.length∧vs=[.slice ao l.length cap,.slice ao2 l.length cap2,.int .i64 (k:Int)]∧i'=i∧L'=L) l.length ⟨0,rfl,E9k _,rfl,rfl,rfl⟩ ?_;rintro m g vs i' L' hi ⟨k,rfl,hk,rfl,rfl,rfl⟩;by_cases hlt:k<l.length
 ·obtain⟨y,hy⟩:=zi l k hlt;obtain⟨b1,o1,c1,t1,z1,p1,e1,g1,q1⟩:=hv.at hy;obtain⟨b2,o2,c2,t2,z2,p2,e2,g2,q2⟩:=hw.at hy;cases e1;cases e2;repeat' (first|refine zp rfl ?_|refine zq rfl ?_|refine zn ?_|refine A2 rfl ?_|refine A0 rfl ?_|refine zs [4,5] rfl ?_|refine C8 (id:=6) J9 (by kernel_rfl) ?_|refine zt rfl rfl (by omega) rfl ?_|refine zd rfl rfl (by omega) rfl ?_|refine D3 (A9 A1 rfl rfl rfl (by omega)) rfl ?_|refine F0 (B2 A1 rfl (Has.imm g1) rfl q1) rfl ?_|refine F0 (B2 A1 rfl (Has.imm g2) rfl q2) rfl ?_|refine D3 (T3 rfl rfl rfl) rfl ?_)
  exact⟨l.length-(k+1),by omega,k+1,rfl,by omega,rfl,rfl,rfl⟩
 ·repeat' (first|refine zp rfl ?_|refine zn ?_|refine A0 rfl ?_|refine zs [4,8] rfl ?_|refine zf rfl rfl (by omega) rfl ?_)
  exact⟨rfl,rfl,rfl⟩
theorem find_at{ds:List Dev}{k:Nat}{d:Dev}{n:Int}(hd:ds[k]?=some d)(he:d.index=n)(hpre:∀(j:Nat)(e:Dev),j<k→ds[j]?=some e→e.index≠n):Clo.find (dvs ds) n=some k:=by
 have hk:=(E9e.1 hd).1;unfold Clo.find;rw[List.findIdx?_eq_some_iff_getElem];refine⟨by rw[C4f];exact hk,?_,fun j hj=>?_⟩
 ·have h1:(dvs ds)[k]?=some ⟨d.index,d.parent⟩:=by rw[A3m,hd];rfl
  rw[E9e] at h1;rw[h1.2];simp[he]
 ·obtain⟨e,hej⟩:=zi ds j (by omega);have h1:(dvs ds)[j]?=some ⟨e.index,e.parent⟩:=by rw[A3m,hej];rfl
  rw[E9e] at h1;rw[h1.2];simpa using hpre j e hj hej
theorem find_no{ds:List Dev}{n:Int}(hpre:∀(j:Nat)(e:Dev),ds[j]?=some e→e.index≠n):Clo.find (dvs ds) n=none:=by
 unfold Clo.find;rw[List.findIdx?_eq_none_iff];intro x hx;obtain⟨d,hd,rfl⟩:=F1k.1 hx;obtain⟨j,hj⟩:=F0j.1 hd;simpa using hpre j d hj
theorem C9b{ds:List Dev}{n:Int}{p:Nat}(h:Clo.find (dvs ds) n=some p):∃d,ds[p]?=some d∧d.index=n:=by
 obtain⟨e,h1,h2⟩:=Clo.find_some h;rw[A3m] at h1;cases hd:ds[p]? with
 |none=>rw[hd] at h1;cases h1
 |some d=>rw[hd] at h1;cases h1;exact⟨d,rfl,h2⟩
def A1g(ds:List Dev)(n:Int):Int:=match Clo.find (dvs ds) n with
 |some p=>p
 |none=> -1
theorem B2u(v:Value)(ds:List Dev)(n:Int)(i:Imm)(L:SH)(hv:V4 i v ds):
 E6 E9c 63 [v,.int .i64 n] i L fun r i' L'=>r=.int .i64 (A1g ds n)∧i'=i∧L'=L:=by
 obtain⟨_,⟨ao,cap,rfl,_⟩,_,hn⟩:=id hv;refine A5 Tryz.func63 rfl rfl (by simp) rfl ?_;repeat' (first|refine zp rfl ?_|refine zn ?_|refine zs [0,1] rfl ?_)
 refine B1 [0,1,5] (fun m vs i' L'=>∃k:Nat,m=ds.length-k∧k≤ds.length∧(∀(j:Nat)(e:Dev),j<k→ds[j]?=some e→e.index≠n)∧vs=[.slice ao ds.length cap,.int .i64 n,.int .i64 (k:Int)]∧i'=i∧L'=L) ds.length ⟨0,rfl,E9k _,U0,rfl,rfl,rfl⟩ ?_;rintro m g vs i' L' hi ⟨k,rfl,hk,hpre,rfl,rfl,rfl⟩;by_cases hlt:k<ds.length
 ·obtain⟨d,hd⟩:=zi ds k hlt;obtain⟨b1,o1,c1,t1,z1,p1,ta,tc,e1,g1,q1,_,_⟩:=hv.at hd;cases e1;repeat' (first|refine zp rfl ?_|refine zn ?_|refine A2 rfl ?_|refine A0 rfl ?_|refine zs [2,3,4,5] rfl ?_|refine zt rfl rfl (by omega) rfl ?_|refine zd rfl rfl (by omega) rfl ?_|refine zx rfl rfl rfl (by omega) rfl ?_|refine zm g1 (q1 0 _ rfl) rfl rfl rfl ?_|refine E1 rfl rfl rfl (fun h=>?_) (fun h=>?_))
  ·exact⟨congrArg (F0u .i64) (by unfold A1g;rw[find_at hd h hpre]),rfl,rfl⟩
  ·exact⟨ds.length-(k+1),by omega,k+1,rfl,by omega,S0 (φ:=fun e:Dev=>e.index≠n) hd h hpre,rfl,rfl,rfl⟩
 ·repeat' (first|refine zp rfl ?_|refine zn ?_|refine A0 rfl ?_|refine zs [2,6] rfl ?_|refine zf rfl rfl (by omega) rfl ?_)
  exact⟨congrArg (F0u .i64) (by unfold A1g;rw[find_no (A4u (φ:=fun e:Dev=>e.index≠n) (by omega) hpre)]),rfl,rfl⟩
def devZ:List Value:=[.int .i64 0,.int .i64 0,.string E9f,.string E9f,.string E9f,.string E9f,.string E9f,.int .i64 0,.int .i64 0,.slice none 0 0]
theorem Find_t(v:Value)(ds:List Dev)(n:Int)(i:Imm)(L:SH)(hv:V4 i v ds):
 E6 E9c 170 [.agg #[v],.int .i64 n] i L fun r i' L'=>((∃p d l,Clo.find (dvs ds) n=some p∧ds[p]?=some d∧R6 i' l d∧r=.tuple #[.agg l.toArray,.bool true])∨(Clo.find (dvs ds) n=none∧r=.tuple #[.agg devZ.toArray,.bool false]))∧L'=L:=by
 refine E6.drop ?_;obtain⟨_,⟨ao,cap,rfl,_⟩,_,hn⟩:=id hv;refine A3h A1 Tryz.func170 rfl rfl (by simp) rfl ?_;repeat' (first|refine zp rfl ?_|refine zn ?_|refine zs [0,1] rfl ?_|refine E4 rfl rfl (fun bt=>?_)|refine C1 A1 rfl rfl (fun bd=>?_)|refine zo 1 rfl rfl rfl rfl ?_|(refine A7 (B2u _ ds n _ _ hv) rfl (by kernel_rfl) rfl ?_;rintro _ i L-⟨rfl,rfl,rfl⟩))
 cases hf:Clo.find (dvs ds) n with
 |none=>
  have e0:A1g ds n= -1:=by unfold A1g;rw[hf]
  rw[e0];repeat' (first|refine zp rfl ?_|refine zn ?_|refine A0 rfl ?_|refine A3 ?_|refine A6 (A1p rfl rfl (by omega)) rfl ?_|refine zw 0 rfl rfl rfl rfl ?_)
  exact⟨_,_,_,_,_,_,rfl,Has.own 0 rfl,rfl,[_,_],.inr ⟨rfl,rfl⟩,rfl⟩
 |some p=>
  obtain⟨d,hd,_⟩:=C9b hf;have hp:=(E9e.1 hd).1;have e0:A1g ds n=p:=by unfold A1g;rw[hf]
  rw[e0];obtain⟨b1,o1,c1,t1,z1,p1,ta,tc,e1,g1,q1,ha,hok⟩:=hv.at hd;cases e1;repeat' (first|refine zp rfl ?_|refine zn ?_|refine A2 rfl ?_|refine A3 ?_|refine A6 (A3a rfl rfl (by omega)) rfl ?_|refine zo 1 rfl rfl rfl rfl ?_|refine zx rfl rfl rfl (by omega) rfl ?_|refine D4 (D9 (l:=W4 d (.slice ta d.attrs.length tc)) A1 rfl (Has.imm g1) rfl rfl rfl q1) rfl ?_|refine zw 0 rfl rfl rfl rfl ?_)
  exact⟨_,_,_,_,_,_,rfl,Has.own 0 rfl,rfl,[_,_],.inl ⟨p,d,_,rfl,hd,⟨ta,tc,rfl,ha,hok⟩,rfl⟩,rfl⟩
def chD(ds:List Dev):Nat→Int→List Dev
 |0,_=>[]
 |f+1,n=>match Clo.find (dvs ds) n with
  |none=>[]
  |some p=>match ds[p]? with
   |none=>[]
   |some d=>d::chD ds f d.parent
theorem D6x(ds:List Dev):∀(f:Nat)(n:Int),(Clo.chain (dvs ds) f n).map (fun p=>ds[p]?)=(chD ds f n).map some
 |0,_=>rfl
 |f+1,n=>by
  unfold Clo.chain chD;cases hf:Clo.find (dvs ds) n with
  |none=>rfl
  |some p=>
   obtain⟨d,hd,_⟩:=C9b hf;simp only[hd,F0w,A3m,F1q,Option.getD_some];rw[D6x ds f d.parent]
theorem chD_mem(ds:List Dev)(f:Nat)(n:Int)(k:Nat)(φ:Int→Prop):(∃d∈(chD ds f n).drop k,φ d.index)↔∃q∈(Clo.chain (dvs ds) f n).drop k,∃e,(dvs ds)[q]?=some e∧φ e.index:=by
 have h:=congrArg (List.drop k) (D6x ds f n);rw[←List.map_drop,←List.map_drop] at h;constructor
 ·rintro⟨d,hd,hi⟩
  have:some d∈((Clo.chain (dvs ds) f n).drop k).map (fun p=>ds[p]?):=by rw[h];exact List.mem_map_of_mem hd
  obtain⟨q,hq,he⟩:=F1k.1 this;exact⟨q,hq,⟨d.index,d.parent⟩,by rw[A3m,he];rfl,hi⟩
 ·rintro⟨q,hq,e,he,hi⟩
  have:ds[q]?∈((chD ds f n).drop k).map some:=by rw[←h];exact List.mem_map_of_mem (f:=fun p=>ds[p]?) hq
  obtain⟨d,hd,hds⟩:=F1k.1 this;rw[A3m,←hds] at he;cases he;exact⟨d,hd,hi⟩
theorem B0d(ds:List Dev):∀(f:Nat)(n:Int),(chD ds f n).length≤f
 |0,_=>E9q _
 |f+1,n=>by
  unfold chD;split
  ·simp
  ·split
   ·simp
   ·simp;exact B0d ds f _
theorem Chain_t(v:Value)(ds:List Dev)(n:Int)(i:Imm)(L:SH)(hv:V4 i v ds):
 E6 E9c 119 [.agg #[v],.int .i64 n] i L fun r i' L'=>(∃cs,Sl i' r 10 (chD ds ds.length n).length cs∧DVc i' cs (chD ds ds.length n)∧A9x r)∧L'=L:=by
 refine E6.drop ?_;obtain⟨_,⟨ao,cap,rfl,_⟩,_,hn⟩:=id hv;refine A5 Tryz.func119 rfl rfl (by simp) rfl ?_;repeat' (first|refine zp rfl ?_|refine zn ?_|refine zs [0,1] rfl ?_|refine E4 rfl rfl (fun bt=>?_))
 refine B1 [1,2,5] (fun m vs i' L'=>∃(acc:List Dev)(x:Int)(a2:Option Addr)(c2:Nat)(cs:List Value)(O:SH),m=ds.length-acc.length∧acc.length≤ds.length∧chD ds ds.length n=acc++chD ds (ds.length-acc.length) x∧vs=[.int .i64 x,.pointer (some ⟨bt,0,none⟩),.slice a2 acc.length c2]∧J2 56 (.slice a2 acc.length c2) 10 acc.length cs O∧DVc i' cs acc∧V4 i' (.slice ao ds.length cap) ds∧L'=O++((bt,.cells [.slice ao ds.length cap].toArray 46 (0,0))::L)) _ ⟨[],n,none,0,[],[],rfl,E9k _,by simp,rfl,J2.nil 56 10,⟨rfl,fun k d h=>by cases h⟩,hv,rfl⟩ ?_;clear hv;rintro m g vs i _ hi ⟨acc,x,a2,c2,cs,O,rfl,hacc,hch,rfl,hO,hcs,hv,rfl⟩;have hbt:(bt,E9n [.slice ao ds.length cap].toArray 46 (0,0))∈(O++((bt,.cells [.slice ao ds.length cap].toArray 46 (0,0))::L):SH):=by simp
 by_cases hlt:acc.length<ds.length
 ·repeat' (first|refine zp rfl ?_|refine zn ?_|refine A2 rfl ?_|refine zr 2 ?_|refine D4 (B0 A1 rfl (Has.mem hbt) rfl) rfl ?_|refine zt rfl rfl (by omega) rfl ?_)
  refine zr 3 ?_;refine D4 (B0 A1 rfl (Has.mem hbt) rfl) rfl ?_;refine zp rfl ?_;refine A7 (Find_t _ ds x _ _ hv) rfl (by kernel_rfl) rfl ?_;rintro _ i1 _ hi1 ⟨⟨p,d,l,hf,hd,hdi,rfl⟩|⟨hf,rfl⟩,rfl⟩
  ·obtain⟨da,dc,rfl,hda,hok⟩:=id hdi;iterate 3 refine zp rfl ?_
   refine C1 A1 rfl rfl (fun bd=>?_);refine zw 0 rfl rfl rfl rfl ?_;refine zp rfl ?_;refine zn ?_;repeat' (first|refine zp rfl ?_|refine zn ?_|refine A0 rfl ?_|refine zr 4 ?_)
   refine zr 5 ?_;refine zp rfl ?_;refine zo 0 rfl rfl rfl rfl ?_;refine A8 A1 10 rfl (J6 (cs:=W4 d (.slice da d.attrs.length dc)) rfl rfl rfl rfl (by decide) (by decide) rfl) rfl (fun b8 i3 hi3 hbs=>?_);refine H7 (D8 [_] A1 (sz:=10) (bytes:=136) (m:=1) rfl rfl hO (hbs.rd _) ⟨_,rfl,rfl⟩ ⟨_,rfl,rfl,rfl⟩ (by omega) (B7w _ _ _ _) (by omega) (by omega)) rfl ?_;rintro _ i4 _ hi4 ⟨O',⟨ao',cap',rfl,hO'⟩,rfl⟩;have hi5:=hi1.trans (hi3.trans hi4);refine zp rfl ?_;refine zn ?_;repeat' (first|refine zn ?_|fail)
   refine zr 6 ?_;refine zp rfl ?_;refine zo 0 rfl rfl rfl rfl ?_;refine zp rfl ?_;refine Y9 [_] (O'++((bt,.cells [.slice ao ds.length cap].toArray 46 (0,0))::L)) ?_;refine zn ?_;repeat' (first|refine zn ?_|fail)
   refine⟨ds.length-(acc++[d]).length,by simp;omega,acc++[d],d.parent,ao',cap',_,O',rfl,by simp;omega,?_,by rw[E9h];rfl,by rw[E9h];exact hO',(hcs.le hi5).app (DVc.single (hdi.le (hi3.trans hi4))),hv.le hi5,rfl⟩;obtain⟨f,hfu⟩:∃f,ds.length-acc.length=f+1:=⟨ds.length-acc.length-1,by omega⟩;rw[hch,hfu,F0p];congr 1;rw[chD,hf];simp only[hd];rw[show ds.length-(acc++[d]).length=f by simp;omega];rfl
  ·refine zp rfl ?_;iterate 2 refine zp rfl ?_
   refine C1 A1 rfl rfl (fun bd=>?_);refine zw 0 rfl rfl rfl rfl ?_;refine zp rfl ?_;refine zn ?_;repeat' (first|refine zp rfl ?_|refine zn ?_|refine A2 rfl ?_|refine Q9 rfl ?_|refine zr 4 ?_)
   have hno:chD ds (ds.length-acc.length) x=[]:=by
    cases ds.length-acc.length with
    |zero=>rfl
    |succ f=>rw[chD,hf]
   rw[hno,List.append_nil] at hch;refine F6 hO (L0:=(bd,_)::(bt,_)::L) List.perm_middle.symm (fun i4 hi4 hs4=>?_);repeat' (first|refine zp rfl ?_|refine zn ?_|refine A3 ?_)
   exact⟨[_,_],⟨cs,by rw[hch];exact hs4,by rw[hch];exact(hcs.le hi1).le hi4,R3 hO⟩,rfl⟩
 ·repeat' (first|refine zp rfl ?_|refine zn ?_|refine A0 rfl ?_|refine zr 2 ?_|refine D4 (B0 A1 rfl (Has.mem hbt) rfl) rfl ?_|refine zf rfl rfl (by omega) rfl ?_)
  have hno:chD ds (ds.length-acc.length) x=[]:=by rw[show ds.length-acc.length=0 by omega];rfl
  rw[hno,List.append_nil] at hch;refine F6 hO (L0:=(bt,_)::L) (List.Perm.refl _) (fun i4 hi4 hs4=>?_);repeat' (first|refine zp rfl ?_|refine zn ?_|refine A3 ?_)
  exact⟨[_],⟨cs,by rw[hch];exact hs4,by rw[hch];exact hcs.le hi4,R3 hO⟩,rfl⟩
section
variable{n:Nat}{f:Fr}{dst:Option Nat}{ty:TypeId}{pos:String}{B4:Array Edge}{gd:Option (Nat×Bool)}
theorem D7q{x:Operand}{ac:List Value}(hx:ev n f x=.agg (E9d ac))(hal:ac.length=127):PV E9c n f ⟨dst,.build 293 #[(2,x)],ty,pos,B4,gd⟩ (.agg (E9d (.int .u8 0:: .bool false::ac))):=by
 have h:PV E9c n f ⟨dst,.build 293 #[(2,x)],ty,pos,B4,gd⟩ _:=D4a (k:=2) (x:=x) (cs:=ac) (e:=⟨.array 127 4,127,127,E9y 127 (.bool false)⟩) A1 rfl rfl rfl rfl (by rw[hx];rfl) hal (by omega) rfl (by rw[hal];rfl);exact h
set_option maxRecDepth 10000 in
theorem E8a{x y:Operand}{ac:List Value}(hy:ev n f y=.bool true)(hx:ev n f x=.agg (E9d ac))(hal:ac.length=127):PV E9c n f ⟨dst,.build 293 #[(1,y),(2,x)],ty,pos,B4,gd⟩ (.agg (E9d (.int .u8 0:: .bool true::ac))):=by
 have h:PV E9c n f ⟨dst,.build 293 #[(1,y),(2,x)],ty,pos,B4,gd⟩ _:=D3z (k:=1) (k':=2) (x:=y) (x':=x) (cs:=[.bool true]) (cs':=ac) (e:=⟨.bool,1,1,[.bool false]⟩) (e':=⟨.array 127 4,127,127,E9y 127 (.bool false)⟩) A1 rfl rfl rfl rfl (by rw[hy];rfl) rfl Nat.one_pos rfl (E9w rfl) rfl rfl (by rw[hx];rfl) hal (by omega) (by rw[hal];rfl);exact h
end
theorem N1{b:Value}{s:Bool}{ac:List Value}(h:W8 ac)(hb:b.oneCell'=true):∀c∈b:: .bool s::ac,c.oneCell'=true:=by
 intro c hc;rcases F0b.1 hc with rfl|hc
 ·exact hb
 ·rcases F0b.1 hc with rfl|hc
  ·rfl
  ·exact h.one c hc
theorem E1e(p:ByteArray)(br:Nat)(i:Imm)(L:SH)(hp:Glob.Prt p)(hs:p.size≤256):
 E6 E9c 236 [.pointer (some ⟨br,0,none⟩)] i ((br,E9n (E9d [E9z p,.int .i64 ((0:Nat):Int)]) 286 (0,0))::L) fun v i' L'=>(∃ao n c b,v=.tuple #[.slice ao n c,.bool b]∧((b=true∧∃a,Glob.rdA p 0 [] []=some a∧D5g El1 129 i' (.slice ao n c) a)∨(b=false∧Glob.rdA p 0 [] []=none)))∧L'=L:=by
 refine E6.state (K:=fun v i' L'=>(∃(ao:Option Addr)(n c:Nat)(G:SH),v=.tuple #[.slice ao n c,.bool false]∧Glob.rdA p 0 [] []=none∧L'=G++L)∨(∃(ao:Option Addr)(n c:Nat)(done:List (List Glob.PEl))(cur:List Glob.PEl)(x:Nat×Obj)(Oe Oo:SH),v=.tuple #[.slice ao n c,.bool true]∧Glob.rdA p 0 [] []=some (done++[cur])∧C8b El1 129 293 230 i' (.slice ao n c) done cur Oe Oo∧L'=x::(Oe++(Oo++L)))) ?_ ?_;rotate_left
 ·rintro v i' L' w _ hst (⟨ao,n,c,G,rfl,h1,rfl⟩|⟨ao,n,c,done,cur,x,Oe,Oo,rfl,h1,h2,rfl⟩)
  ·exact⟨i',L,Imm.le.refl i',hst.dropL,⟨ao,n,c,false,rfl,.inr ⟨rfl,h1⟩⟩,rfl⟩
  ·obtain⟨i2,g1,g2,g3⟩:=h2.freeze hst.drop;exact⟨i2,L,g1,g2,⟨ao,n,c,true,rfl,.inl ⟨rfl,_,h1,g3⟩⟩,rfl⟩
 refine G4 Tryz.func236 rfl rfl (by simp) rfl ?_;repeat' (first|refine zp rfl ?_|refine zn ?_|refine zs [0,1] rfl ?_|refine V9 A1 rfl rfl (fun g0=>?_))
 refine A1r (L':=(br,E9n (E9d [E9z p,.int .i64 ((0:Nat):Int)]) 286 (0,0))::([]++([(g0,E9n [F0h none 0 0].toArray 230 (0,0))]++L))) (List.Perm.swap _ _ _) ?_;refine B1 [0,4] (fun m vs i' L'=>∃(k:Nat)(v:Value)(done:List (List Glob.PEl))(cur:List Glob.PEl)(Oe Oo:SH),m=p.size-k∧k≤p.size∧done.length≤k∧cur.length≤k∧Glob.rdA p 0 [] []=Glob.rdA p k done cur∧C8b El1 129 293 230 i' v done cur Oe Oo∧vs=[.pointer (some ⟨br,0,none⟩),v]∧L'=(br,E9n (E9d [E9z p,.int .i64 ((k:Nat):Int)]) 286 (0,0))::(Oe++(Oo++L))) p.size ⟨0,_,[],[],[],_,rfl,E9k _,E9q _,E9q _,rfl,⟨g0,1,[],none,0,[],rfl,rfl,A4g 230 1 1 g0 _ rfl,fun q l h=>by simp at h,J2.nil 293 129,B4w.nil _ _⟩,rfl,rfl⟩ ?_;rintro m g vs i _ hi ⟨k,v,done,cur,Oe,Oo,rfl,hk,hdn,hcn,hrd,hO,rfl,rfl⟩;by_cases hlt:k<p.size;rotate_left
 ·have e0:=D5v (p:=p) (k:=k) (done:=done) (cur:=cur) (by omega);have hO':=hO;obtain⟨gb,cap,hs',ao,cp,ys,rfl,_⟩:=hO';repeat' (first|refine zq rfl ?_|refine zp rfl ?_|refine zn ?_|refine A0 rfl ?_|refine C8 (id:=2) J9 (by kernel_rfl) ?_|refine zr 20 ?_|refine F0 (B0 A1 rfl (Has.own 0 rfl) rfl) rfl ?_|refine D3 (A0j rfl rfl (by omega)) rfl ?_)
  exact .inr ⟨_,_,_,done,cur,_,Oe,Oo,rfl,by rw[hrd,e0],hO,rfl⟩
 obtain⟨gb,cap,hs',ao,cp,ys,rfl,hhl,hxs,hfro,hys,hels⟩:=hO;have hbk:=A2d hp hlt;repeat' (first|refine zq rfl ?_|refine zp rfl ?_|refine zn ?_|refine A2 rfl ?_|refine C8 (id:=2) J9 (by kernel_rfl) ?_|refine C8 (id:=3) J9 (by kernel_rfl) ?_|refine zr 4 ?_|refine F0 (B0 A1 rfl (Has.own 0 rfl) rfl) rfl ?_|refine D3 (Y5 rfl rfl (by omega)) rfl ?_|refine D3 (F8 A1 rfl rfl rfl (by omega)) rfl ?_|refine zo 0 rfl rfl rfl rfl ?_|refine zd rfl rfl (by omega) rfl ?_|refine zw 0 rfl rfl rfl rfl ?_)
 refine zr 5 ?_;refine zp rfl ?_;refine A6 (v:=.agg (E9d (F0u .u8 (Glob.bt p k:Int)::E9y 128 (F0x false)))) (A7g A1 rfl) rfl ?_;refine C1 A1 rfl rfl (fun b6=>?_);refine K7 (cs:=F0u .u8 0::E9y 128 (F0x false)) (k:=0) A1 rfl rfl rfl rfl rfl (List.cons_ne_nil _ _) (K3 rfl rfl (N1 (s:=false) (W8.rep 127) rfl)) ?_;refine zn ?_;refine zn ?_;refine K9 [0,4,6] (fun vs i' L'=>∃(e:Nat)(x:Glob.PEl)(cs:List Value),vs=[.pointer (some ⟨br,0,none⟩),.slice (some ⟨gb,0,none⟩) (done.length+1) cap,.pointer (some ⟨b6,0,none⟩)]∧k<e∧e≤p.size∧Glob.rdA p k done cur=Glob.rdA p e done (cur++[x])∧El1 cs x∧cs.length=129∧(∀c∈cs,c.oneCell'=true)∧L'=(b6,.cells (E9d cs) 293 (0,0))::(br,E9n (E9d [E9z p,.int .i64 ((e:Nat):Int)]) 286 (0,0))::(Oe++(Oo++L))) ?_ ?_
 ·by_cases h124:Glob.bt p k=124
  ·repeat' (first|refine zp rfl ?_|refine zn ?_|refine A2 rfl ?_|refine zs [6,8] rfl ?_|refine A6 (G9 rfl rfl (by omega)) rfl ?_)
   all_goals try(exfalso;omega)
   refine B8k [(b6,_)] ((br,E9n (E9d [E9z p,.int .i64 ((k+1:Nat):Int)]) 286 (0,0))::(Oe++(Oo++L))) ?_;refine F6 hys (L0:=(br,E9n (E9d [E9z p,.int .i64 ((k+1:Nat):Int)]) 286 (0,0))::(Oo++L)) List.perm_middle.symm (fun i4 hi4 hs4=>?_);refine zr 9 ?_;refine zp rfl ?_;refine A8 A1 1 rfl rfl rfl (fun b i5 hi5 hs2=>?_);refine H7 (D8 [_] A1 (sz:=1) (bytes:=24) (m:=1) rfl rfl hxs (hs2.rd _) ⟨_,rfl,rfl⟩ ⟨_,rfl,rfl,rfl⟩ (by omega) (F4 rfl) (by omega) (by omega)) rfl ?_;rintro _ i6 _ hi6 ⟨O',⟨ao',cap',rfl,hO'⟩,rfl⟩;obtain⟨g2,rfl⟩:=(J2.addr hO').2.resolve_left (by omega);refine zp rfl ?_;refine zn ?_;repeat' (first|refine zn ?_|refine Q9 rfl ?_)
   have e1:(done++[cur]).length+1=done.length+1+1:=by simp
   refine⟨p.size-(k+1),by omega,k+1,_,done++[cur],[],[],O',rfl,by omega,by simp;omega,by simp,by rw[hrd,D5w hlt h124],⟨g2,cap',hs'++[.slice ao cur.length cp],none,0,[],rfl,by simp[hhl],by rw[e1];exact hO',fun q l hq=>?_,J2.nil 293 129,B4w.nil _ _⟩,by rw[e1];rfl,rfl⟩;by_cases e:q<done.length
   ·rw[E9t e] at hq;obtain⟨u,h7,h8⟩:=hfro q l hq;exact⟨u,by rw[E9t (by omega)];exact h7,h8.le ((hi4.trans hi5).trans hi6)⟩
   ·have hq2:=(E9e.1 hq).1;simp at hq2;obtain rfl:q=done.length:=by omega
    simp at hq;subst hq;exact⟨_,by rw[F0r (by omega),hhl];simp,ao,cp,ys,rfl,hs4.le (hi5.trans hi6),hels⟩
  ·by_cases h42:Glob.bt p k=42
   ·repeat' (first|refine zp rfl ?_|refine zn ?_|refine A2 rfl ?_|refine A0 rfl ?_|refine zs [6,8,10] rfl ?_|refine A6 (H5 rfl rfl (by omega)) rfl ?_|refine A6 (G9 rfl rfl (by omega)) rfl ?_)
    all_goals try(exfalso;omega)
    refine zr 11 ?_;refine A7 (C3w _ _) rfl (by kernel_rfl) rfl ?_;rintro _ i L' hi' ⟨⟨ac,rfl,hal,hab,hac⟩,hLL⟩;subst hLL;refine A6 (E8a rfl rfl hal) rfl ?_;refine K7 (cs:=F0u .u8 (Glob.bt p k:Int)::E9y 128 (F0x false)) (k:=0) A1 rfl rfl rfl rfl (by simp[hal]) (List.cons_ne_nil _ _) (K3 rfl (by simp[hal]) (N1 (s:=true) hab rfl)) ?_;refine zn ?_;repeat' (first|refine zn ?_|fail)
    exact⟨k+1,Glob.pStar,_,rfl,by omega,by omega,C8m hlt h42,⟨rfl,rfl,(fun h=>by cases h),N1 (s:=true) hab rfl⟩,by simp[hal],N1 (s:=true) hab rfl,rfl⟩
   ·by_cases h63:Glob.bt p k=63
    ·repeat' (first|refine zp rfl ?_|refine zn ?_|refine A2 rfl ?_|refine A0 rfl ?_|refine zs [6,8,10,12] rfl ?_|refine A6 (H5 rfl rfl (by omega)) rfl ?_|refine A6 (G9 rfl rfl (by omega)) rfl ?_)
     all_goals try(exfalso;omega)
     refine zr 13 ?_;refine A7 (C3w _ _) rfl (by kernel_rfl) rfl ?_;rintro _ i L' hi' ⟨⟨ac,rfl,hal,hab,hac⟩,hLL⟩;subst hLL;refine A6 (D7q rfl hal) rfl ?_;refine K7 (cs:=F0u .u8 (Glob.bt p k:Int)::E9y 128 (F0x false)) (k:=0) A1 rfl rfl rfl rfl (by simp[hal]) (List.cons_ne_nil _ _) (K3 rfl (by simp[hal]) (N1 (s:=false) hab rfl)) ?_;refine zn ?_;repeat' (first|refine zn ?_|fail)
     exact⟨k+1,Glob.pAny,_,rfl,by omega,by omega,D5y hlt h63,⟨rfl,rfl,(fun _ c h1 h2=>by rw[show 2+c=c+1+1 by omega];exact hac c h1 h2),N1 (s:=false) hab rfl⟩,by simp[hal],N1 (s:=false) hab rfl,rfl⟩
    ·by_cases h91:Glob.bt p k=91
     ·repeat' (first|refine zp rfl ?_|refine zn ?_|refine A2 rfl ?_|refine A0 rfl ?_|refine zs [6,8,10,12,14] rfl ?_|refine A6 (H5 rfl rfl (by omega)) rfl ?_|refine A6 (G9 rfl rfl (by omega)) rfl ?_)
      all_goals try(exfalso;omega)
      refine zr 15 ?_;refine zp rfl ?_;refine J3 (List.Perm.swap _ _ _) ?_;refine A7 (E4w p (k+1) br _ _ hp hs (by omega)) rfl (by kernel_rfl) rfl ?_;rintro _ i L' hi' ⟨b,x',sc,rfl,hLL,hsl,hsb,hcase⟩;subst hLL;refine J3 (List.Perm.swap _ _ _) ?_;iterate 3 refine zp rfl ?_
      refine C1 A1 rfl rfl (fun b7=>?_);refine K7 (cs:=E9y 127 (F0x false)) (k:=0) A1 rfl rfl rfl rfl (by simp[hsl]) (by intro h;rw[h] at hsl;cases hsl) (K3 rfl hsl hsb.one) ?_;refine zp rfl ?_;refine zn ?_;rcases hcase with⟨rfl,hno⟩|⟨rfl,n,f,hse,rfl,hn1,hn2,hsc⟩
      ·repeat' (first|refine zp rfl ?_|refine zn ?_|refine A2 rfl ?_|refine zs [16,17] rfl ?_)
       exact .inl ⟨_,_,_,[_,_,_]++(Oe++Oo),rfl,by rw[hrd,D5x hlt h91 hno],by rw[F0p,F0p];rfl⟩
      ·repeat' (first|refine zp rfl ?_|refine zn ?_|refine A0 rfl ?_|refine zr 16 ?_)
       refine zr 18 ?_;refine D4 (D9 (l:=sc) A1 rfl (Has.own 0 rfl) rfl rfl hsl (fun j u hj=>by rw[F1b];exact hj)) rfl ?_;refine A6 (D7q rfl hsl) rfl ?_;refine K7 (cs:=F0u .u8 (Glob.bt p k:Int)::E9y 128 (F0x false)) (k:=1) A1 rfl rfl rfl rfl (by simp[hsl]) (List.cons_ne_nil _ _) (K3 rfl (by simp[hsl]) (N1 (s:=false) hsb rfl)) ?_;refine Y9 [_] ((b6,_)::_) ?_;refine zn ?_;repeat' (first|refine zn ?_|fail)
       exact⟨n+1,Glob.pSet f,_,rfl,by omega,by omega,D5t hlt h91 hse hn1,⟨rfl,rfl,(fun _ c h1 h2=>by rw[show 2+c=c+1+1 by omega];exact hsc c h1 h2),N1 (s:=false) hsb rfl⟩,by simp[hsl],N1 (s:=false) hsb rfl,rfl⟩
     ·repeat' (first|refine zp rfl ?_|refine zn ?_|refine A0 rfl ?_|refine zs [6,8,10,12,14] rfl ?_|refine A6 (H5 rfl rfl (by omega)) rfl ?_)
      all_goals try(exfalso;omega)
      refine zr 7 ?_;iterate 2 refine zp rfl ?_
      refine A6 (G6 A1 rfl rfl rfl (by omega)) rfl ?_;refine H7 (H1 (u:=.bool true) (k:=0) (off:=0+2+((Glob.bt p k:Nat):Int).toNat*1) (cs:=F0u .u8 (Glob.bt p k:Int)::E9y 128 (F0x false)) A1 rfl rfl rfl rfl rfl (by simp;omega)) rfl ?_;rintro _ _ _-⟨rfl,rfl⟩;refine zn ?_;repeat' (first|refine zn ?_|fail)
      have hone:∀c∈(F0u .u8 (Glob.bt p k:Int)::E9y 128 (F0x false)).set (0+2+((Glob.bt p k:Nat):Int).toNat*1) (.bool true),c.oneCell'=true:=fun c hc=>by
       rcases List.mem_or_eq_of_mem_set hc with hc|rfl
       ·rcases F0b.1 hc with rfl|hc
        ·rfl
        ·rw[List.eq_of_mem_replicate hc];rfl
       ·rfl
      refine⟨k+1,Glob.pLit (Glob.bt p k),_,rfl,by omega,by omega,D5u hlt h124 h42 h63 h91,⟨?_,?_,fun _ c h1 h2=>?_,hone⟩,by simp,hone,rfl⟩
      ·rw[F0q (by omega)];rfl
      ·rw[F0q (by omega)];rfl
      ·by_cases hd:c=Glob.bt p k
       ·subst hd;rw[show 0+2+((Glob.bt p k:Nat):Int).toNat*1=2+Glob.bt p k by omega,List.getElem?_set_self (by simp;omega)];simp[Glob.pLit]
       ·rw[F0q (by omega),show 2+c=c+1+1 by omega,List.getElem?_cons_succ,List.getElem?_replicate,if_pos (by omega)];simp[Glob.pLit,hd]
 rintro g vs i1 _ hi1 ⟨e,x,cs,rfl,he1,he2,hstep,hx2,hl,hone,rfl⟩;obtain⟨sp,hOo,hsp,_⟩:=J2.block hxs;have hxl:=hxs.1
 have q5:((hs'++[.slice ao cur.length cp])++sp)[0+(((done.length+1:Nat):Int)-1).toNat*1]?=some (.slice ao cur.length cp):=by
  rw[show 0+(((done.length+1:Nat):Int)-1).toNat*1=done.length by omega,E9t (by omega),F0r (by omega),hhl,Nat.sub_self];rfl
 have hin:∀G:SH,(gb,E9n (E9d ((hs'++[.slice ao cur.length cp])++sp)) 230 (0,0))∈((b6,.cells (E9d cs) 293 (0,0))::(br,E9n (E9d [E9z p,.int .i64 ((e:Nat):Int)]) 286 (0,0))::(G++(Oo++L)):SH):=fun G=>by rw[hOo];simp
 refine H8 J9 [0,1,2,3,4,5,6,7,8,9,10,11,12] [13,14] [12] (fun L'=>∃G:SH,L'=(b6,.cells (E9d cs) 293 (0,0))::(br,E9n (E9d [E9z p,.int .i64 ((e:Nat):Int)]) 286 (0,0))::(G++(Oo++L))) (stE fun L'=>L'=(b6,.cells (E9d cs) 293 (0,0))::(br,E9n (E9d [E9z p,.int .i64 ((e:Nat):Int)]) 286 (0,0))::(Oe++(Oo++L))) (by kernel_rfl) (by decide) rfl ⟨Oe,rfl⟩ (G7 _) rfl ?_;iterate 2 refine zg rfl rfl rfl ?_
 refine zg rfl rfl rfl ?_;refine E7 (H3 rfl rfl (by omega)) rfl rfl rfl rfl rfl rfl ?_;iterate 2 refine zg rfl rfl rfl ?_
 refine zg rfl rfl rfl ?_;refine E7 (H3 rfl rfl (by omega)) rfl rfl rfl rfl rfl rfl ?_;refine E7 (A9 A1 rfl rfl rfl (by omega)) rfl rfl rfl rfl rfl rfl ?_;refine D7 (fun i' hi L' hL=>by obtain⟨G,rfl⟩:=hL;exact B2 A1 rfl (Has.mem (hin G)) rfl q5) rfl rfl rfl rfl rfl rfl ?_;refine D7 (fun i' hi L' hL=>by obtain⟨G,rfl⟩:=hL;exact D9 A1 rfl (Has.mem (F0g ..)) rfl rfl hl (fun j u hj=>by rw[F1b];exact hj)) rfl rfl rfl rfl rfl rfl ?_;refine S8 A1 129 (e:=293) (cs:=cs) (J6 rfl rfl rfl hl (by decide) (by decide) rfl) (by rw[hl]) rfl rfl rfl rfl ?_;refine G0 (fun _ _=>True) ⟨[78],fun _ vs L'=>∃ao' cap' ys' O',vs=[.slice ao' (cur.length+1) cap']∧J2 293 (.slice ao' (cur.length+1) cap') 129 (cur.length+1) ys' O'∧B4w El1 129 ys' (cur++[x])∧L'=(b6,.cells (E9d cs) 293 (0,0))::(br,E9n (E9d [E9z p,.int .i64 ((e:Nat):Int)]) 286 (0,0))::(O'++(Oo++L))⟩ (fun _ _ _ _ _=>trivial) (fun _ _ _ _ _ h=>h) rfl rfl rfl rfl rfl rfl (fun i' hi L' _ vs _ hm=>?_) ?_
 ·rintro v ⟨b,rfl,hbs⟩-;refine⟨rfl,?_⟩;have hm:L'=_:=hm;subst hm;refine P3.mono (D8 [(b6,.cells (E9d cs) 293 (0,0)),(br,E9n (E9d [E9z p,.int .i64 ((e:Nat):Int)]) 286 (0,0))] A1 (sz:=129) (bytes:=129) (m:=1) rfl rfl hys (hbs.rd _) ⟨_,rfl,rfl⟩ ⟨_,rfl,rfl,rfl⟩ (by omega) hone (by omega) (by omega)) ?_;rintro v' i3 L3 _ ⟨O',⟨ao',cap',rfl,h1⟩,rfl⟩;exact⟨⟨O',rfl⟩,trivial,ao',cap',_,O',rfl,h1,hels.snoc hl hx2,rfl⟩
 refine I8 rfl rfl (fun i2 L2 vs hi2 _ _ hm=>?_);obtain⟨ao',cap',ys',O',rfl,h1,h2,rfl⟩:=hm;rintro w-w2-hw;have hwv:w=.slice ao' (cur.length+1) cap':=hw 0 _ _ rfl rfl;subst hwv;refine zx rfl rfl rfl (by omega) rfl ?_;refine H7 (A5g ((b6,.cells (E9d cs) 293 (0,0))::(br,E9n (E9d [E9z p,.int .i64 ((e:Nat):Int)]) 286 (0,0))::O') (off:=done.length) (u:=.slice ao' (cur.length+1) cap') A1 hxs (by show Value.pointer (some ⟨gb,0+(((done.length+1:Nat):Int)-1).toNat*1,none⟩)=_;rw[show 0+(((done.length+1:Nat):Int)-1).toNat*1=done.length by omega]) rfl rfl rfl (by omega)) rfl ?_;rintro _ i3 L3 hi3 ⟨Oo',hOo',rfl⟩;refine Y9 [_] ((br,E9n (E9d [E9z p,.int .i64 ((e:Nat):Int)]) 286 (0,0))::(O'++(Oo'++L))) ?_;refine zn ?_;repeat' (first|refine zn ?_|fail)
 have e1:(cur++[x]).length=cur.length+1:=by simp
 refine⟨p.size-e,by omega,e,_,done,cur++[x],O',Oo',rfl,by omega,by omega,by omega,by rw[hrd,hstep],⟨gb,cap,hs',ao',cap',ys',rfl,hhl,?_,fun q l hq=>let⟨u,h7,h8⟩:=hfro q l hq;⟨u,h7,h8.le (hi1.trans (hi2.trans hi3))⟩,by rw[e1];exact h1,h2⟩,rfl,rfl⟩;rw[e1]
 have e2:(hs'++[F0h ao cur.length cp]).set done.length (.slice ao' (cur.length+1) cap')=hs'++[.slice ao' (cur.length+1) cap']:=by
  rw[List.set_append_right _ _ (by omega),hhl,Nat.sub_self];rfl
 rw[e2] at hOo';exact hOo'
theorem rdA_len{p:ByteArray}{k:Nat}{done:List (List Glob.PEl)}{cur:List Glob.PEl}{a:List (List Glob.PEl)}(h:Glob.rdA p k done cur=some a)(h1:∀l∈done,l.length≤p.size)(h2:cur.length+(p.size-k)≤p.size)(h3:done.length+(p.size-k)≤p.size):a.length≤p.size+1∧∀l∈a,l.length≤p.size:=by
 fun_induction Glob.rdA p k done cur with
 |case1 k done cur hk hb ih=>
  refine ih h (fun l hl=>?_) (by simp) (by simp;omega);rcases E9r.1 hl with hl|hl
  ·exact h1 l hl
  ·simp at hl;subst hl;omega
 |case2 k done cur hk hb hb2 ih=>exact ih h h1 (by simp;omega) (by omega)
 |case3 k done cur hk hb hb2 hb3 ih=>exact ih h h1 (by simp;omega) (by omega)
 |case4=>cases h
 |case5 k done cur hk hb hb2 hb3 hb4 e f hr ih=>exact ih h h1 (by simp;omega) (by omega)
 |case6 k done cur hk hb hb2 hb3 hb4 ih=>exact ih h h1 (by simp;omega) (by omega)
 |case7 k done cur hk=>
  cases h;refine⟨by simp;omega,fun l hl=>?_⟩;rcases E9r.1 hl with hl|hl
  ·exact h1 l hl
  ·simp at hl;subst hl;omega
theorem C8n{p:ByteArray}{a:List (List Glob.PEl)}(h:B5t p=some a):a.length≤p.size+1∧∀l∈a,l.length≤p.size:=by
 unfold B5t at h;split at h
 ·exact rdA_len h (fun l hl=>by cases hl) (by simp) (by simp)
 ·cases h
theorem B9f(p s:ByteArray)(i:Imm)(L:SH)(hp:p.size≤4294967280)(hs:s.size≤1000000):
 E6 E9c 179 [.string p,.string s] i L fun r i' L'=>BV (Glob.Mat p s) r∧L'=L:=by
 refine A5 Tryz.func179 rfl rfl (by simp) rfl ?_;cases hpat:Glob.pat p with
 |none=>
  have hno:¬Glob.Mat p s:=fun⟨_,a,h,_⟩=>by rw[hpat] at h;cases h
  repeat' (first|refine zp rfl ?_|refine zn ?_|refine A2 rfl ?_|refine zs [0,1,2] rfl ?_|(refine A7 (A9p p _ _) rfl (by kernel_rfl) rfl ?_;rintro _ i L hi ⟨⟨e,rfl,he⟩,rfl⟩;rw[hpat] at he;simp at he)|refine A6 (T1 rfl rfl (by omega)) rfl ?_)
  all_goals first|(exfalso;omega)|exact⟨BV.no hno,rfl⟩
 |some a=>
  have hsm:p.size≤256:=by
   rcases Nat.lt_or_ge 256 p.size with h|h
   ·rw[B5e h] at hpat;cases hpat
   ·exact h
  have hpr:B5t p=some a:=by rw[←B2h hsm];exact hpat
  have hal:=C8n hpr;repeat' (first|refine zp rfl ?_|refine zn ?_|refine A2 rfl ?_|refine A0 rfl ?_|refine zs [0,1,2,3,4] rfl ?_|(refine A7 (A9p p _ _) rfl (by kernel_rfl) rfl ?_;rintro _ i L hi ⟨⟨e,rfl,he⟩,rfl⟩;rw[hpat] at he;simp at he)|refine A6 (T3 rfl rfl (by omega)) rfl ?_|refine C9 _ (B4f _ _ _ (by omega)) rfl (by kernel_rfl) rfl ?_ ?_<;>rintro i L-⟨hok,rfl,rfl⟩|(refine A7 (B8z p _ _ (by omega)) rfl (by kernel_rfl) rfl ?_;rintro _ i L hi ⟨⟨u1,u2,u3,b,rfl,hb⟩,rfl⟩))
  all_goals try(exfalso;omega)
  rotate_left
  ·exact⟨BV.no fun h=>Bool.noConfusion (hok.2 h.1),rfl⟩
  have hps:=hok.1 rfl;rcases hb with⟨rfl,a',ha',hav⟩|⟨_,h⟩
  rotate_left
  ·rw[hpr] at h;cases h
  rw[hpr] at ha';cases ha';obtain⟨hs',hsl,hav⟩:=hav;obtain⟨_,_,e9,_⟩:=id hsl;cases e9;refine B1 [1,5,7] (fun m vs i' L'=>∃k:Nat,m=a.length-k∧k≤a.length∧(∀(j:Nat)(l:List Glob.PEl),j<k→a[j]?=some l→¬Glob.Mt (Glob.els l) (Glob.bts s))∧vs=[.string s,.slice u1 a.length u3,.int .i64 (k:Int)]∧i.le i'∧L'=L) a.length ⟨0,rfl,E9k _,U0,rfl,Imm.le.refl _,rfl⟩ ?_;rintro m g vs i' _ hi2 ⟨k,rfl,hk,hpre,rfl,hii,rfl⟩;replace hsl:=hsl.le hii;by_cases hlt:k<a.length
  ·obtain⟨l,hl⟩:=zi a k hlt;obtain⟨u,hu,ao,cap,cs,rfl,hcs,hel⟩:=hav k l hl;obtain⟨b1,o1,c1,t1,z1,p1,e1,g1,h1⟩:=hsl.at hlt (by omega);cases e1
   have q1:c1[o1+((k:Nat):Int).toNat*1]?=some (.slice ao l.length cap):=by
    have:=h1 0 (by omega)
    rw[show k*1+0=k by omega,hu] at this;exact this
   have hll:=hal.2 l (E9g hl);repeat' (first|refine zp rfl ?_|refine zn ?_|refine A2 rfl ?_|refine A0 rfl ?_|refine A3 ?_|refine zt rfl rfl (by omega) rfl ?_|refine zd rfl rfl (by omega) rfl ?_|refine zx rfl rfl rfl (by omega) rfl ?_|refine zm g1 q1 rfl rfl rfl ?_|refine Q7 (One_v _ s l cs _ _ (hcs.le hii) hel hps (by omega) hs) rfl (by kernel_rfl) rfl ?_ ?_<;>rintro i5 hi5 hm)
   ·exact⟨N9 ⟨hps,a,hpat,l,E9g hl,hm⟩,rfl⟩
   ·exact⟨a.length-(k+1),by omega,k+1,rfl,by omega,S0 (φ:=fun l:List Glob.PEl=>¬Glob.Mt (Glob.els l) (Glob.bts s)) hl hm hpre,rfl,hii.trans hi5,rfl⟩
  ·repeat' (first|refine zp rfl ?_|refine zn ?_|refine A0 rfl ?_|refine zs [5,9] rfl ?_|refine zf rfl rfl (by omega) rfl ?_)
   refine⟨BV.no ?_,rfl⟩
   rintro⟨_,a',ha',l,hl,hm⟩
   rw[hpat] at ha';cases ha';obtain⟨j,hj⟩:=F0j.1 hl;exact A4u (φ:=fun l:List Glob.PEl=>¬Glob.Mt (Glob.els l) (Glob.bts s)) (by omega) hpre j l hj hm
theorem D9y(s:ByteArray)(i:Imm)(L:SH)(hs:s.size≤4294967280):
 E6 E9c 197 [.string s] i L fun v i' L'=>∃b,v=.bool b∧(b=true↔Glob.Prt s∧s.size≤256)∧i'=i∧L'=L:=by
 refine A5 Tryz.func197 rfl rfl (by simp) rfl ?_;repeat' (first|refine zp rfl ?_|refine zn ?_|refine zs [0,1] rfl ?_)
 refine B1 [0,5,6] (fun m vs i' L'=>∃k:Nat,m=s.size-k∧k≤s.size∧(∀j,j<k→32≤Glob.bt s j∧Glob.bt s j≤126)∧vs=[.string s,.int .i64 (s.size:Int),.int .i64 (k:Int)]∧i'=i∧L'=L) s.size ⟨0,rfl,E9k _,fun j hj=>absurd hj (by omega),rfl,rfl,rfl⟩ ?_;rintro m g vs i' L' hi ⟨k,rfl,hk,hpre,rfl,rfl,rfl⟩;by_cases hlt:k<s.size
 ·by_cases hb:32≤Glob.bt s k∧Glob.bt s k≤126
  ·repeat' (first|refine zp rfl ?_|refine zn ?_|refine A2 rfl ?_|refine A0 rfl ?_|refine zs [2,3,4,6] rfl ?_|refine zt rfl rfl (by omega) rfl ?_|refine A6 (F8 A1 rfl rfl rfl (by omega)) rfl ?_|refine zf rfl rfl (by omega) rfl ?_|refine A6 (I0 rfl rfl (by omega)) rfl ?_|refine zd rfl rfl (by omega) rfl ?_)
   refine⟨s.size-(k+1),by omega,k+1,rfl,by omega,fun j hj=>?_,rfl,rfl,rfl⟩;rcases F0m.1 hj with hj|rfl
   ·exact hpre j hj
   ·exact hb
  ·have hno:¬(Glob.Prt s∧s.size≤256):=fun h=>hb (A2d h.1 hlt)
   by_cases hb2:Glob.bt s k<32
   ·repeat' (first|refine zp rfl ?_|refine zn ?_|refine A2 rfl ?_|refine zs [2,3,4,5] rfl ?_|refine zt rfl rfl (by omega) rfl ?_|refine A6 (F8 A1 rfl rfl rfl (by omega)) rfl ?_)
    exact⟨false,rfl,by simp[hno],rfl,rfl⟩
   ·repeat' (first|refine zp rfl ?_|refine zn ?_|refine A2 rfl ?_|refine zs [2,3,4,5] rfl ?_|refine zt rfl rfl (by omega) rfl ?_|refine A6 (F8 A1 rfl rfl rfl (by omega)) rfl ?_|refine zf rfl rfl (by omega) rfl ?_|refine A6 (J4 rfl rfl (by omega)) rfl ?_)
    exact⟨false,rfl,by simp[hno],rfl,rfl⟩
 ·have hp:Glob.Prt s:=fun b hb=>by
   obtain⟨j,hj⟩:=F0j.1 hb
   have hjs:j<s.size:=by
    have:=(E9e.1 hj).1
    rwa [Glob.bts_len] at this
   rw[B1u hjs] at hj;cases hj;exact hpre j (by omega)
  repeat' (first|refine zp rfl ?_|refine zn ?_|refine A0 rfl ?_|refine zs [2,7] rfl ?_|refine zf rfl rfl (by omega) rfl ?_|refine O5 rfl rfl rfl (fun h=>?_) (fun h=>?_))
  ·exact⟨true,rfl,by simp[hp];omega,rfl,rfl⟩
  ·exact⟨false,rfl,by simp;intro _;omega,rfl,rfl⟩
theorem bt_lt(p:ByteArray)(k:Nat):Glob.bt p k<256:=by
 unfold Glob.bt;cases p[k]? with
 |none=>decide
 |some b=>exact b.toNat_lt
theorem D3d{p:ByteArray}{k:Nat}{done:List (List Glob.PEl)}{cur:List Glob.PEl}{a:List (List Glob.PEl)}(h:Glob.rdA p k done cur=some a)(h1:∀l∈done,∀e∈l,e.lit<256)(h2:∀e∈cur,e.lit<256):∀l∈a,∀e∈l,e.lit<256:=by
 have snoc:∀{cur:List Glob.PEl}{x:Glob.PEl},(∀e∈cur,e.lit<256)→x.lit<256→∀e∈cur++[x],e.lit<256:=fun h hx e he=>by
  rcases E9r.1 he with he|he
  ·exact h e he
  ·simp at he;subst he;exact hx
 have dn:∀{done:List (List Glob.PEl)}{cur:List Glob.PEl},(∀l∈done,∀e∈l,e.lit<256)→(∀e∈cur,e.lit<256)→∀l∈done++[cur],∀e∈l,e.lit<256:=fun h hc l hl=>by
  rcases E9r.1 hl with hl|hl
  ·exact h l hl
  ·simp at hl;subst hl;exact hc
 fun_induction Glob.rdA p k done cur with
 |case1 k done cur hk hb ih=>exact ih h (dn h1 h2) (fun e he=>by cases he)
 |case2 k done cur hk hb hb2 ih=>exact ih h h1 (snoc h2 (by decide))
 |case3 k done cur hk hb hb2 hb3 ih=>exact ih h h1 (snoc h2 (by decide))
 |case4=>cases h
 |case5 k done cur hk hb hb2 hb3 hb4 e f hr ih=>exact ih h h1 (snoc h2 (by show 0<256;decide))
 |case6 k done cur hk hb hb2 hb3 hb4 ih=>exact ih h h1 (snoc h2 (bt_lt p k))
 |case7 k done cur hk=>cases h;exact dn h1 h2
theorem pat_lit{p:ByteArray}{a:List (List Glob.PEl)}(h:Glob.pat p=some a):∀l∈a,∀e∈l,e.lit<256:=by
 unfold Glob.pat at h;split at h
 ·exact D3d h (fun l hl=>by cases hl) (fun e he=>by cases he)
 ·cases h
theorem pat_prt{p:ByteArray}(h1:p.size≤256)(h2:Glob.Prt p):Glob.pat p=Glob.rdA p 0 [] []:=by unfold Glob.pat;rw[if_pos ⟨h1,h2⟩]
theorem pat_no{p:ByteArray}(h:¬(Glob.Prt p∧p.size≤256)):Glob.pat p=none:=by unfold Glob.pat;rw[if_neg (fun x=>h ⟨x.2,x.1⟩)]
theorem D6b{p:ByteArray}{a:List (List Glob.PEl)}(h:Glob.pat p=some a):a.length≤257∧∀l∈a,l.length≤256:=by
 have hz:p.size≤256:=by
  rcases Nat.lt_or_ge 256 p.size with h1|h1
  ·rw[B5e h1] at h;cases h
  ·exact h1
 have h2:=C8n (by rw[←B2h hz];exact h);exact⟨by omega,fun l hl=>by have:=h2.2 l hl;omega⟩
def ParsedV(p:ByteArray)(i:Imm)(v:Value):Prop:=∃ao n c e,v=.tuple #[.slice ao n c,.int .i64 e]∧((e=0∧∃a,Glob.pat p=some a∧D5g El1 129 i (.slice ao n c) a)∨(e≠0∧Glob.pat p=none))
theorem B9a(p:ByteArray)(i:Imm)(L:SH)(hs:p.size≤4294967280):
 E6 E9c 173 [.string p] i L fun v i' L'=>ParsedV p i' v∧L'=L:=by
 refine G4 Tryz.func173 rfl rfl (by simp) rfl ?_;by_cases hz:p.size≤256;rotate_left
 ·repeat' (first|refine zp rfl ?_|refine zn ?_|refine A2 rfl ?_|refine A3 ?_|refine A6 (J4 rfl rfl (by omega)) rfl ?_)
  exact⟨⟨_,_,_,_,rfl,.inr ⟨by decide,B5e (by omega)⟩⟩,rfl⟩
 repeat' (first|refine zp rfl ?_|refine zn ?_|refine A2 rfl ?_|refine A0 rfl ?_|refine zs [0,1,3,4] rfl ?_|refine A6 (I0 rfl rfl (by omega)) rfl ?_|refine C9 _ (D9y _ _ _ (by omega)) rfl (by kernel_rfl) rfl ?_ ?_<;>rintro i L-⟨hok,rfl,rfl⟩)
 rotate_left
 ·exact⟨⟨_,_,_,_,rfl,.inr ⟨by decide,pat_no (fun h=>Bool.noConfusion (hok.2 h))⟩⟩,rfl⟩
 have hp:=(hok.1 rfl).1;have hpat:=pat_prt hz hp;repeat' (first|refine zp rfl ?_|refine zn ?_|refine A2 rfl ?_|refine A0 rfl ?_|refine A3 ?_|refine E4 rfl rfl (fun br=>?_)|(refine A7 (E1e p br _ L hp hz) rfl (by kernel_rfl) rfl ?_;rintro _ i L hi ⟨⟨u1,u2,u3,b,rfl,hb⟩,hLL⟩;subst hLL;cases b))
 ·rcases hb with⟨h,_⟩|⟨_,h⟩
  ·cases h
  ·exact⟨⟨_,_,_,_,rfl,.inr ⟨by decide,hpat.trans h⟩⟩,rfl⟩
 ·rcases hb with⟨_,a,h1,h2⟩|⟨h,_⟩
  ·exact⟨⟨_,_,_,_,rfl,.inl ⟨rfl,a,hpat.trans h1,h2⟩⟩,rfl⟩
  ·cases h
theorem prt_of{s:ByteArray}(h:∀j,j<s.size→32≤Glob.bt s j∧Glob.bt s j≤126):Glob.Prt s:=fun b hb=>by
 obtain⟨j,hj⟩:=F0j.1 hb
 have hjs:j<s.size:=by
  have:=(E9e.1 hj).1
  rwa [Glob.bts_len] at this
 rw[B1u hjs] at hj;cases hj;exact h j hjs
theorem B9g(p s:ByteArray)(i:Imm)(L:SH)(hp:p.size≤4294967280)(hs:s.size≤1000000):
 E6 E9c 177 [.string p,.string s] i L fun r i' L'=>BV (Glob.Mat p s) r∧L'=L:=by
 refine A5 Tryz.func177 rfl rfl (by simp) rfl ?_;repeat' (first|refine zp rfl ?_|refine zn ?_|refine zs [0,1] rfl ?_|(refine A7 (B9a _ _ _ (by omega)) rfl (by kernel_rfl) rfl ?_;rintro _ i L hi ⟨⟨u1,u2,u3,e,rfl,he⟩,hLL⟩;subst hLL))
 rcases he with⟨rfl,a,hpat,hav⟩|⟨he,hno⟩
 rotate_left
 ·repeat' (first|refine zp rfl ?_|refine zn ?_|refine A2 rfl ?_|refine zs [2,3] rfl ?_|refine A6 (T1 rfl rfl (by omega)) rfl ?_)
  exact⟨BV.no (fun⟨_,a,h,_⟩=>by rw[hno] at h;cases h),rfl⟩
 obtain⟨hs',hsl,hav⟩:=hav;obtain⟨_,_,e9,_⟩:=id hsl;cases e9;have hal:=D6b hpat;repeat' (first|refine zp rfl ?_|refine zn ?_|refine A0 rfl ?_|refine zs [2,4] rfl ?_|refine A6 (T3 rfl rfl (by omega)) rfl ?_)
 refine B1 [1,5,18,19] (fun m vs i' L'=>∃k:Nat,m=s.size-k∧k≤s.size∧(∀j,j<k→32≤Glob.bt s j∧Glob.bt s j≤126)∧vs=[.string s,.slice u1 a.length u3,.int .i64 (s.size:Int),.int .i64 (k:Int)]∧i'=i∧L'=L) s.size ⟨0,rfl,E9k _,fun j hj=>absurd hj (by omega),rfl,rfl,rfl⟩ ?_;rintro m g vs iq Lq hi2 ⟨k,rfl,hk,hpre,rfl,rfl,rfl⟩;by_cases hlt:k<s.size
 ·by_cases hb:32≤Glob.bt s k∧Glob.bt s k≤126
  ·repeat' (first|refine zp rfl ?_|refine zn ?_|refine A2 rfl ?_|refine A0 rfl ?_|refine zs [5,6,7,9] rfl ?_|refine zt rfl rfl (by omega) rfl ?_|refine A6 (F8 A1 rfl rfl rfl (by omega)) rfl ?_|refine zf rfl rfl (by omega) rfl ?_|refine A6 (I0 rfl rfl (by omega)) rfl ?_|refine zd rfl rfl (by omega) rfl ?_)
   refine⟨s.size-(k+1),by omega,k+1,rfl,by omega,fun j hj=>?_,rfl,rfl,rfl⟩;rcases F0m.1 hj with hj|rfl
   ·exact hpre j hj
   ·exact hb
  ·have hno:¬Glob.Mat p s:=fun h=>hb (A2d h.1 hlt)
   by_cases hb2:Glob.bt s k<32
   ·repeat' (first|refine zp rfl ?_|refine zn ?_|refine A2 rfl ?_|refine zs [5,6,7,8] rfl ?_|refine zt rfl rfl (by omega) rfl ?_|refine A6 (F8 A1 rfl rfl rfl (by omega)) rfl ?_)
    exact⟨BV.no hno,rfl⟩
   ·repeat' (first|refine zp rfl ?_|refine zn ?_|refine A2 rfl ?_|refine zs [5,6,7,8] rfl ?_|refine zt rfl rfl (by omega) rfl ?_|refine A6 (F8 A1 rfl rfl rfl (by omega)) rfl ?_|refine zf rfl rfl (by omega) rfl ?_|refine A6 (J4 rfl rfl (by omega)) rfl ?_)
    exact⟨BV.no hno,rfl⟩
 have hps:Glob.Prt s:=prt_of fun j hj=>hpre j (by omega)
 repeat' (first|refine zp rfl ?_|refine zn ?_|refine A0 rfl ?_|refine zs [5,10] rfl ?_|refine zf rfl rfl (by omega) rfl ?_)
 refine B1 [1,33,34,35] (fun m vs i' L'=>∃k:Nat,m=a.length-k∧k≤a.length∧(∀(j:Nat)(l:List Glob.PEl),j<k→a[j]?=some l→¬Glob.Mt (Glob.els l) (Glob.bts s))∧vs=[.string s,.slice u1 a.length u3,.int .i64 (a.length:Int),.int .i64 (k:Int)]∧iq.le i'∧L'=Lq) a.length ⟨0,rfl,E9k _,U0,rfl,Imm.le.refl _,rfl⟩ ?_;rintro m g vs i5 _ hi5 ⟨k,rfl,hk,hpre,rfl,hii,rfl⟩;replace hsl:=hsl.le hii;by_cases hlt:k<a.length
 ·obtain⟨l,hl⟩:=zi a k hlt;obtain⟨u,hu,ao,cap,cs,rfl,hcs,hel⟩:=hav k l hl;obtain⟨b1,o1,c1,t1,z1,p1,e1,g1,h1⟩:=hsl.at hlt (by omega);cases e1
  have q1:c1[o1+((k:Nat):Int).toNat*1]?=some (.slice ao l.length cap):=by
   have:=h1 0 (by omega)
   rw[show k*1+0=k by omega,hu] at this;exact this
  have hll:=hal.2 l (E9g hl);repeat' (first|refine zp rfl ?_|refine zn ?_|refine A2 rfl ?_|refine A0 rfl ?_|refine zs [11,12,13,14,15] rfl ?_|refine zt rfl rfl (by omega) rfl ?_|refine zx rfl rfl rfl (by omega) rfl ?_|refine zm g1 q1 rfl rfl rfl ?_|refine Q7 (E0h _ s l cs _ _ (hcs.le hii) hel hps (by omega) hs) rfl (by kernel_rfl) rfl ?_ ?_<;>rintro i5 hi5 hm|refine zd rfl rfl (by omega) rfl ?_)
  ·exact⟨N9 ⟨hps,a,hpat,l,E9g hl,hm⟩,rfl⟩
  ·exact⟨a.length-(k+1),by omega,k+1,rfl,by omega,S0 (φ:=fun l:List Glob.PEl=>¬Glob.Mt (Glob.els l) (Glob.bts s)) hl hm hpre,rfl,hii.trans hi5,rfl⟩
 ·repeat' (first|refine zp rfl ?_|refine zn ?_|refine A0 rfl ?_|refine zs [11,16] rfl ?_|refine zf rfl rfl (by omega) rfl ?_)
  refine⟨BV.no ?_,rfl⟩
  rintro⟨_,a',ha',l,hl,hm⟩
  rw[hpat] at ha';cases ha';obtain⟨j,hj⟩:=F0j.1 hl;exact A4u (φ:=fun l:List Glob.PEl=>¬Glob.Mt (Glob.els l) (Glob.bts s)) (by omega) hpre j l hj hm
theorem E6m(s:ByteArray)(b:UInt8):Glob.bts (s.push b)=Glob.bts s++[b.toNat]:=by
 unfold Glob.bts
 show((s.data.push b).toList).map _=_
 simp
theorem B4c:∀(ns:List Nat)(s:ByteArray),(∀m∈ns,m<256)→∃r,bytesOf (ns.map fun m:Nat=>F0u .u8 (m:Int)) s=some r∧Glob.bts r=Glob.bts s++ns
 |[],s,_=>⟨s,rfl,by simp⟩
 |m::ns,s,h=>by
  have hm:=h m (F0g ..);obtain⟨r,h1,h2⟩:=B4c ns (s.push (F0d m)) (fun x hx=>h x (E9u _ hx));refine⟨r,?_,?_⟩
  ·rw[F0w];simp only[bytesOf];exact h1
  ·rw[h2,E6m,F0p];simp[UInt8.toNat_ofNat_of_lt' hm]
def C2f(l:List Glob.PEl):List Nat:=l.map fun e=>e.lit
def W6:List Glob.PEl→List Nat
 |[]=>[]
 |e::l=>if e.lit=0 then [] else e.lit::W6 l
theorem C1b{l:List Glob.PEl}:∀{k:Nat},(∀(j:Nat)(e:Glob.PEl),j<k→l[j]?=some e→e.lit≠0)→W6 l=C2f (l.take k)++W6 (l.drop k)
 |0,_=>by simp[C2f]
 |k+1,h=>by
  cases l with
  |nil=>simp[W6,C2f]
  |cons e l=>
   have h0:=h 0 e (by omega) rfl;rw[W6,if_neg h0,C1b (l:=l) (k:=k) fun j x hj hx=>h (j+1) x (by omega) hx];simp[C2f]
theorem B8t:∀{l:List Glob.PEl},(W6 l).length=l.length→(∀e∈l,e.lit≠0)∧W6 l=C2f l
 |[],_=>⟨(fun e he=>by cases he),rfl⟩
 |e::l,h=>by
  unfold W6 at h⊢;by_cases h0:e.lit=0
  ·rw[if_pos h0] at h;simp at h
  ·rw[if_neg h0] at h⊢;obtain⟨h1,h2⟩:=B8t (l:=l) (by simpa using h);refine⟨fun x hx=>?_,by rw[h2];rfl⟩;rcases F0b.1 hx with rfl|hx
   ·exact h0
   ·exact h1 x hx
def u8s(ns:List Nat):List Value:=ns.map fun m:Nat=>F0u .u8 (m:Int)
theorem D1m(v:Value)(l:List Glob.PEl)(cs:List Value)(i:Imm)(L:SH)(hs:Sl i v 129 l.length cs)(hl:B4w El1 129 cs l)(hb:∀e∈l,e.lit<256)(hn:l.length≤256):
 E6 E9c 174 [v] i L fun r i' L'=>(∃s,r=.string s∧Glob.bts s=W6 l)∧L'=L:=by
 refine E6.drop ?_;obtain⟨ao,cap,rfl,_⟩:=id hs;refine A5 Tryz.func174 rfl rfl (by simp) rfl ?_;repeat' (first|refine zp rfl ?_|refine zn ?_|refine zs [0,1,2] rfl ?_)
 refine B1 [3,6,7,8] (fun m vs i' L'=>∃(k:Nat)(a2:Option Addr)(c2:Nat)(O G:SH),m=l.length-k∧k≤l.length∧(∀(j:Nat)(e:Glob.PEl),j<k→l[j]?=some e→e.lit≠0)∧vs=[.slice a2 k c2,.slice ao l.length cap,.int .i64 (l.length:Int),.int .i64 (k:Int)]∧J2 5 (.slice a2 k c2) 1 k (u8s (C2f (l.take k))) O∧i.le i'∧L'=G++(O++L)) l.length ⟨0,none,0,[],[],rfl,E9k _,U0,rfl,J2.nil 5 1,Imm.le.refl _,rfl⟩ ?_;rintro m g vs i1 _ hi1 ⟨k,a2,c2,O,G,rfl,hk,hpre,rfl,hO,hle,rfl⟩
 have fin:W6 (l.drop k)=[]→∃r,bytesOf (u8s (C2f (l.take k))) E9f=some r∧Glob.bts r=W6 l:=fun hz=>by
  obtain⟨r,h1,h2⟩:=B4c (C2f (l.take k)) E9f (fun m hm=>by
   obtain⟨e,he,rfl⟩:=F1k.1 hm;exact hb e (F1d he))
  exact⟨r,h1,by rw[h2,C1b hpre,hz];simp[Glob.bts]⟩
 by_cases hlt:k<l.length
 ·obtain⟨e,he⟩:=zi l k hlt;obtain⟨b1,o1,c1,t1,z1,p1,e1,g1,⟨hlit,_,_,hone⟩,q1⟩:=hl.at (hs.le hle) he (by omega);cases e1;have hnl:(nth 129 cs k).length=129:=C3p hl.1 hlt;have e0:l.take (k+1)=l.take k++[e]:=by rw[List.take_add_one,he];rfl
  have hlit':(nth 129 cs k)[0+0]?=some (.int .u8 (e.lit:Int)):=hlit;repeat' (first|refine zn ?_|refine A2 rfl ?_|refine zr 3 ?_|refine zt rfl rfl (by omega) rfl ?_)
  refine zr 4 ?_;refine zx rfl rfl rfl (by omega) rfl ?_;refine D4 (D9 (l:=nth 129 cs k) A1 rfl (Has.imm g1) rfl rfl hnl q1) rfl ?_;refine C1 A1 rfl rfl (fun b5=>?_);refine K7 (cs:=F0u .u8 0::E9y 128 (F0x false)) (k:=0) A1 rfl rfl rfl rfl (by rw[hnl];rfl) (by intro h;rw[h] at hnl;cases hnl) (K3 rfl hnl hone) ?_;refine zn ?_;by_cases h0:e.lit=0
  ·have hz:W6 (l.drop k)=[]:=by rw[Glob.drop_cons he,W6,if_pos h0]
   obtain⟨r,h1,h2⟩:=fin hz;repeat' (first|refine zp rfl ?_|refine zn ?_|refine A2 rfl ?_|refine Q9 rfl ?_|refine A3 ?_|refine D4 (B2 A1 rfl (Has.own 0 rfl) rfl hlit') rfl ?_|refine A6 (G9 rfl rfl (by omega)) rfl ?_|refine D4 (B2t A1 ⟨_,rfl,rfl⟩ ⟨_,rfl,rfl⟩ ⟨_,rfl,rfl⟩ rfl ((hO.rd (L:=L)).ahead (_::G)) h1) rfl ?_)
   exact⟨[_]++(G++O),⟨r,rfl,h2⟩,by rw[F0p,F0p];rfl⟩
  ·repeat' (first|refine zp rfl ?_|refine zn ?_|refine A0 rfl ?_|refine zs [5,6,7] rfl ?_|refine D4 (B2 A1 rfl (Has.own 0 rfl) rfl hlit') rfl ?_|refine A6 (H5 rfl rfl (by omega)) rfl ?_|refine A8 A1 1 rfl rfl rfl (fun bz i hi hbs=>?_)|(refine H7 (D8 (_::G) A1 (sz:=1) (bytes:=1) (m:=1) rfl rfl hO (hbs.rd _) ⟨_,rfl,rfl⟩ ⟨_,rfl,rfl,rfl⟩ (by omega) (F4 rfl) (by omega) (by omega)) rfl ?_;rintro _ i4 _ hi4 ⟨O',⟨ao',cap',rfl,hO'⟩,rfl⟩)|refine zd rfl rfl (by omega) rfl ?_)
   exact⟨l.length-(k+1),by omega,k+1,ao',cap',O',_::G,rfl,hlt,S0 he h0 hpre,rfl,by rw[e0];simpa [C2f,u8s] using hO',hle.trans (hi.trans hi4),rfl⟩
 ·have hz:W6 (l.drop k)=[]:=by rw[List.drop_eq_nil_of_le (by omega)];rfl
  obtain⟨r,h1,h2⟩:=fin hz;repeat' (first|refine zp rfl ?_|refine zn ?_|refine A0 rfl ?_|refine A3 ?_|refine zf rfl rfl (by omega) rfl ?_|refine D4 (B2t A1 ⟨_,rfl,rfl⟩ ⟨_,rfl,rfl⟩ ⟨_,rfl,rfl⟩ rfl ((hO.rd (L:=L)).ahead G) h1) rfl ?_)
  exact⟨G++O,⟨r,rfl,h2⟩,by rw[F0p]⟩
theorem C5g(p:ByteArray)(i:Imm)(L:SH)(hp:p.size≤4294967280):
 E6 E9c 123 [.string p] i L fun r i' L'=>(∃s b,r=.tuple #[.string s,.bool b]∧(b=true→Glob.Lit p s))∧L'=L:=by
 refine G4 Tryz.func123 rfl rfl (by simp) rfl ?_;repeat' (first|refine zp rfl ?_|refine zn ?_|refine zs [0,1] rfl ?_|(refine A7 (B9a _ _ _ (by omega)) rfl (by kernel_rfl) rfl ?_;rintro _ i L hi ⟨⟨u1,u2,u3,e,rfl,he⟩,hLL⟩;subst hLL))
 rcases he with⟨rfl,a,hpat,hav⟩|⟨he,hno⟩
 rotate_left
 ·repeat' (first|refine zp rfl ?_|refine zn ?_|refine A2 rfl ?_|refine zs [2,3] rfl ?_|refine A6 (T1 rfl rfl (by omega)) rfl ?_)
  exact⟨⟨_,_,rfl,fun h=>by cases h⟩,rfl⟩
 obtain⟨hs',hsl,hav⟩:=hav;obtain⟨_,_,e9,_⟩:=id hsl;cases e9;have hal:=D6b hpat;by_cases h1:a.length=1;rotate_left
 ·repeat' (first|refine zp rfl ?_|refine zn ?_|refine A2 rfl ?_|refine zs [2,3] rfl ?_|refine A6 (T3 rfl rfl (by omega)) rfl ?_|refine A6 (T1 rfl rfl (by omega)) rfl ?_)
  exact⟨⟨_,_,rfl,fun h=>by cases h⟩,rfl⟩
 obtain⟨l,rfl⟩:∃l,a=[l]:=List.length_eq_one_iff.1 h1;obtain⟨u,hu,ao,cap,cs,rfl,hcs,hel⟩:=hav 0 l rfl;obtain⟨b1,o1,c1,t1,z1,p1,e1,g1,h2⟩:=hsl.at (k:=0) (by simp) (by omega);cases e1
 have q1:c1[o1+(0:Int).toNat*1]?=some (.slice ao l.length cap):=by
  have:=h2 0 (by omega)
  rw[show 0*1+0=0 by omega,hu] at this;exact this
 have hll:=hal.2 l (by simp);repeat' (first|refine zp rfl ?_|refine zn ?_|refine A2 rfl ?_|refine A0 rfl ?_|refine A3 ?_|refine A6 (T3 rfl rfl (by omega)) rfl ?_|refine zx rfl rfl rfl (by omega) rfl ?_|refine zm g1 q1 rfl rfl rfl ?_|(refine A7 (D1m _ l cs _ _ hcs hel (pat_lit hpat l (by simp)) (by omega)) rfl (by kernel_rfl) rfl ?_;rintro _ i5 L5 hi5 ⟨⟨s,rfl,hsb⟩,hLL⟩;subst hLL;replace g1:=hi5.blk _ _ g1)|refine E1 rfl rfl rfl (fun h=>?_) (fun h=>?_))
 ·have hlen:(W6 l).length=l.length:=by
   have:=Glob.bts_len s
   rw[hsb] at this;omega
  obtain⟨h4,h5⟩:=B8t hlen;exact⟨⟨_,_,rfl,fun _=>⟨l,hpat,h4,by rw[hsb,h5];rfl⟩⟩,rfl⟩
 ·exact⟨⟨_,_,rfl,fun h=>by cases h⟩,rfl⟩
def Q1(t:Term):Prop:=(t.op=1∨t.op=2)∧(t.key=2∨t.key=3∨t.key=4∨t.key=5)
instance(t:Term):Decidable (Q1 t):=by unfold Q1;exact inferInstance
def A6m:List (ByteArray×ByteArray)→ByteArray→ByteArray
 |[],_=>E9f
 |p::l,nm=>if p.1=nm then p.2 else A6m l nm
def P6(t:Term)(d:Dev):ByteArray:=if t.key=2 then d.original else if t.key=3 then d.subsystem else if t.key=4 then d.driver else A6m d.attrs t.name
def S5(t:Term)(v:ByteArray):Prop:=Glob.Mat t.value v↔t.op=1
def E3:List Term→List Term
 |[]=>[]
 |t::ts=>if t.key=12∨t.key=14 then [] else if Q1 t then t::E3 ts else E3 ts
theorem A0n:∀{ts:List Term},∀t∈E3 ts,Q1 t
 |[],t,h=>by cases h
 |u::ts,t,h=>by
  unfold E3 at h;split at h
  ·cases h
  ·split at h
   ·rename_i hs;rcases F0b.1 h with rfl|h
    ·exact hs
    ·exact A0n t h
   ·exact A0n t h
theorem A2n:∀{ts:List Term},∀t∈E3 ts,t∈ts
 |[],t,h=>by cases h
 |u::ts,t,h=>by
  unfold E3 at h;split at h
  ·cases h
  ·split at h
   ·rcases F0b.1 h with rfl|h
    ·exact F0g ..
    ·exact E9u _ (A2n t h)
   ·exact E9u _ (A2n t h)
theorem A0b:∀{ts:List Term},(E3 ts).length≤ts.length
 |[]=>E9q _
 |u::ts=>by
  have:=A0b (ts:=ts)
  unfold E3;split
  ·simp
  ·split<;>simp<;>omega
def A6t(ts:List Term)(d:Dev):Prop:=∀t∈E3 ts,S5 t (P6 t d)
def A3w(ts:List Term):Prop:=∃t∈ts,t.key=23∨t.key=24
theorem D4e(t:Term)(i:Imm)(L:SH):E6 E9c 175 [.agg (H6 t).toArray] i L fun v i' L'=>BV (t.op=1∨t.op=2) v∧L'=L:=by
 refine E6.drop ?_;refine A5 Tryz.func175 rfl rfl (by simp) rfl ?_;repeat' (first|refine zp rfl ?_|refine zn ?_|refine A3 ?_|refine E4 rfl rfl (fun b=>?_)|refine zo 0 rfl rfl rfl rfl ?_|refine E1 rfl rfl rfl (fun h=>?_) (fun h=>?_))
 all_goals first|exact⟨[_],N9 (by omega),rfl⟩|exact⟨[_],BV.no (by omega),rfl⟩
theorem D4d(t:Term)(i:Imm)(L:SH):E6 E9c 178 [.agg (H6 t).toArray] i L fun v i' L'=>BV (t.op=1∨t.op=2) v∧L'=L:=by
 refine E6.drop ?_;refine A5 Tryz.func178 rfl rfl (by simp) rfl ?_;repeat' (first|refine zp rfl ?_|refine zn ?_|refine A3 ?_|refine E4 rfl rfl (fun b=>?_)|refine zo 0 rfl rfl rfl rfl ?_|refine E1 rfl rfl rfl (fun h=>?_) (fun h=>?_))
 all_goals first|exact⟨[_],N9 (by omega),rfl⟩|exact⟨[_],BV.no (by omega),rfl⟩
theorem A1a(t:Term)(i:Imm)(L:SH):E6 E9c 129 [.agg (H6 t).toArray] i L fun v i' L'=>BV (Q1 t) v∧L'=L:=by
 refine E6.drop ?_;refine A5 Tryz.func129 rfl rfl (by simp) rfl ?_;repeat' (first|refine zp rfl ?_|refine zn ?_|refine A3 ?_|refine E4 rfl rfl (fun b=>?_)|refine zo 0 rfl rfl rfl rfl ?_|refine Q7 (D4d t _ _) rfl (by kernel_rfl) rfl ?_ ?_<;>rintro i _ hm|refine E1 rfl rfl rfl (fun h=>?_) (fun h=>?_))
 all_goals first|exact⟨[_],N9 (by unfold Q1;omega),rfl⟩|exact⟨[_],BV.no (by unfold Q1;omega),rfl⟩
theorem B2j{l:List (ByteArray×ByteArray)}{nm:ByteArray}:∀{k:Nat},(∀(j:Nat)(p:ByteArray×ByteArray),j<k→l[j]?=some p→p.1≠nm)→A6m l nm=A6m (l.drop k) nm
 |0,_=>by simp
 |k+1,h=>by
  rw[B2j (k:=k) fun j p hj hp=>h j p (by omega) hp];cases hk:l[k]? with
  |none=>
   rw[List.drop_eq_nil_of_le (by rw[List.getElem?_eq_none_iff] at hk;exact hk),List.drop_eq_nil_of_le (by rw[List.getElem?_eq_none_iff] at hk;omega)]
  |some p=>
   rw[Glob.drop_cons hk];simp only[A6m,if_neg (h k p (by omega) hk)]
theorem D6h{l:List (ByteArray×ByteArray)}{nm:ByteArray}{k:Nat}{p:ByteArray×ByteArray}(hp:l[k]?=some p)(e:p.1=nm)(h:∀(j:Nat)(q:ByteArray×ByteArray),j<k→l[j]?=some q→q.1≠nm):A6m l nm=p.2:=by
 rw[B2j h,Glob.drop_cons hp];simp only[A6m,if_pos e]
theorem D6g{l:List (ByteArray×ByteArray)}{nm:ByteArray}(h:∀(j:Nat)(q:ByteArray×ByteArray),l[j]?=some q→q.1≠nm):A6m l nm=E9f:=by
 rw[B2j (k:=l.length) fun j p _ hp=>h j p hp,List.drop_length];rfl
theorem S7.at{i:Imm}{v:Value}{l:List (ByteArray×ByteArray)}{k:Nat}{p:ByteArray×ByteArray}(h:S7 i v l)(hp:l[k]?=some p):∃b o c t z cap,v=.slice (some ⟨b,o,none⟩) l.length cap∧i.blk b=some (.cells (E9d c) t z)∧∀j u,(A6u p)[j]?=some u→c[o+((k:Nat):Int).toNat*2+j]?=some u:=by
 obtain⟨b1,o1,c1,t1,z1,p1,e1,g1,h1⟩:=h.1.at (E9e.1 hp).1 (by omega);refine⟨b1,o1,c1,t1,z1,p1,e1,g1,fun j u hj=>?_⟩;have hj2:j<2:=(E9e.1 hj).1;rw[h1 j hj2,C9p hp j hj2,hj]
theorem E8h(v:Value)(l:List (ByteArray×ByteArray))(nm:ByteArray)(i:Imm)(L:SH)(hv:S7 i v l):
 E6 E9c 132 [v,.string nm] i L fun r i' L'=>(∃b,r=.tuple #[.string (A6m l nm),.bool b])∧L'=L:=by
 obtain⟨ao,cap,rfl,_⟩:=id hv.1;have hn:=hv.2.1;refine G4 Tryz.func132 rfl rfl (by simp) rfl ?_;repeat' (first|refine zp rfl ?_|refine zn ?_|refine zs [0,1] rfl ?_)
 refine B1 [0,1,6] (fun m vs i' L'=>∃k:Nat,m=l.length-k∧k≤l.length∧(∀(j:Nat)(y:ByteArray×ByteArray),j<k→l[j]?=some y→y.1≠nm)∧vs=[.slice ao l.length cap,.string nm,.int .i64 (k:Int)]∧i'=i∧L'=L) l.length ⟨0,rfl,E9k _,U0,rfl,rfl,rfl⟩ ?_;rintro m g vs i' L' hi ⟨k,rfl,hk,hpre,rfl,rfl,rfl⟩;by_cases hlt:k<l.length
 ·obtain⟨p,hp⟩:=zi l k hlt;obtain⟨b1,o1,c1,t1,z1,p1,e1,g1,q1⟩:=hv.at hp;cases e1;repeat' (first|refine zp rfl ?_|refine zn ?_|refine A2 rfl ?_|refine A0 rfl ?_|refine A3 ?_|refine zt rfl rfl (by omega) rfl ?_|refine zd rfl rfl (by omega) rfl ?_|refine zx rfl rfl rfl (by omega) rfl ?_|refine zm g1 (q1 0 _ rfl) rfl rfl rfl ?_|refine I9 rfl rfl rfl (fun h=>?_) (fun h=>?_)|refine zm g1 (q1 1 _ rfl) rfl rfl rfl ?_)
  ·exact⟨⟨_,by rw[D6h hp (A2u h) hpre];rfl⟩,rfl⟩
  ·exact⟨l.length-(k+1),by omega,k+1,rfl,by omega,S0 (φ:=fun y:ByteArray×ByteArray=>y.1≠nm) hp (fun e=>h (by rw[e])) hpre,rfl,rfl,rfl⟩
 ·repeat' (first|refine zp rfl ?_|refine zn ?_|refine A0 rfl ?_|refine zs [2,6] rfl ?_|refine zf rfl rfl (by omega) rfl ?_)
  exact⟨⟨_,by rw[D6g (A4u (φ:=fun y:ByteArray×ByteArray=>y.1≠nm) (by omega) hpre)];rfl⟩,rfl⟩
theorem E8g(v:Value)(l:List (ByteArray×ByteArray))(nm:ByteArray)(i:Imm)(L:SH)(hv:S7 i v l):
 E6 E9c 241 [v,.string nm] i L fun r i' L'=>(∃b,r=.tuple #[.string (A6m l nm),.bool b])∧L'=L:=by
 refine E6.drop ?_;obtain⟨ao,cap,rfl,_⟩:=id hv.1;have hn:=hv.2.1;refine G4 Tryz.func241 rfl rfl (by simp) rfl ?_;repeat' (first|refine zp rfl ?_|refine zn ?_|refine zs [0,1] rfl ?_)
 refine B1 [1,8,9,10] (fun m vs i' L'=>∃(k:Nat)(G:SH),m=l.length-k∧k≤l.length∧(∀(j:Nat)(y:ByteArray×ByteArray),j<k→l[j]?=some y→y.1≠nm)∧vs=[.string nm,.slice ao l.length cap,.int .i64 (l.length:Int),.int .i64 (k:Int)]∧i'=i∧L'=G++L) l.length ⟨0,[],rfl,E9k _,U0,rfl,rfl,rfl⟩ ?_;rintro m g vs i' L' hi ⟨k,G,rfl,hk,hpre,rfl,rfl,rfl⟩;by_cases hlt:k<l.length
 ·obtain⟨p,hp⟩:=zi l k hlt;obtain⟨b1,o1,c1,t1,z1,p1,e1,g1,q1⟩:=hv.at hp;cases e1;repeat' (first|refine zp rfl ?_|refine zn ?_|refine A2 rfl ?_|refine A0 rfl ?_|refine A3 ?_|refine zt rfl rfl (by omega) rfl ?_|refine zx rfl rfl rfl (by omega) rfl ?_|refine D4 (D9 (l:=A6u p) A1 rfl (Has.imm g1) rfl rfl rfl q1) rfl ?_|refine C1 A1 rfl rfl (fun b5=>?_)|refine zw 0 rfl rfl rfl rfl ?_|refine zo 0 rfl rfl rfl rfl ?_|refine I9 rfl rfl rfl (fun h=>?_) (fun h=>?_)|refine zd rfl rfl (by omega) rfl ?_)
  ·exact⟨_::G,⟨_,by rw[D6h hp (A2u h) hpre];rfl⟩,rfl⟩
  ·exact⟨l.length-(k+1),by omega,k+1,_::G,rfl,by omega,S0 (φ:=fun y:ByteArray×ByteArray=>y.1≠nm) hp (fun e=>h (by rw[e])) hpre,rfl,rfl,rfl⟩
 ·repeat' (first|refine zp rfl ?_|refine zn ?_|refine A0 rfl ?_|refine zs [2,7] rfl ?_|refine zf rfl rfl (by omega) rfl ?_)
  exact⟨G,⟨_,by rw[D6g (A4u (φ:=fun y:ByteArray×ByteArray=>y.1≠nm) (by omega) hpre)];rfl⟩,rfl⟩
theorem getA_le{l:List (ByteArray×ByteArray)}{nm:ByteArray}(h:∀p∈l,B1v p):(A6m l nm).size≤64:=by
 induction l with
 |nil=>exact E9k _
 |cons p l ih=>
  unfold A6m;split
  ·exact(h p (F0g ..)).2
  ·exact ih fun q hq=>h q (E9u _ hq)
theorem C8x{i:Imm}{l:List Value}{d:Dev}(h:R6 i l d)(t:Term):(P6 t d).size≤64:=by
 obtain⟨_,_,_,hat,hok⟩:=h;unfold P6;split
 ·exact hok.og
 ·split
  ·exact hok.su
  ·split
   ·exact hok.dr
   ·exact getA_le hat.2.2
theorem A5j(t:Term)(v:ByteArray)(i:Imm)(L:SH)(ht:t.value.size≤1024)(hv:v.size≤1000000):
 E6 E9c 126 [.agg (E9d (H6 t)),.string v] i L fun r i' L'=>BV (S5 t v) r∧L'=L:=by
 refine E6.drop ?_;refine A5 Tryz.func126 rfl rfl (by simp) rfl ?_;by_cases h1:t.op=1
 ·repeat' (first|refine zp rfl ?_|refine zq rfl ?_|refine zn ?_|refine A3 ?_|refine C8 J9 (by kernel_rfl) ?_|refine E4 rfl rfl (fun bt=>?_)|refine F0 (B0 A1 rfl (Has.own 0 rfl) rfl) rfl ?_|refine M1 (B9g t.value v _ _ (by omega) hv) rfl (by kernel_rfl) rfl (fun hm=>?_) (fun hm=>?_)|refine D3 (G9 rfl rfl (by omega)) rfl ?_|refine D3 (B5p A1 ⟨_,rfl,rfl⟩ rfl rfl) rfl ?_)
  ·exact⟨[_],N9 (by unfold S5;simp[hm,h1]),rfl⟩
  ·exact⟨[_],BV.no (by unfold S5;simp[hm,h1]),rfl⟩
 ·repeat' (first|refine zp rfl ?_|refine zq rfl ?_|refine zn ?_|refine A3 ?_|refine C8 J9 (by kernel_rfl) ?_|refine E4 rfl rfl (fun bt=>?_)|refine F0 (B0 A1 rfl (Has.own 0 rfl) rfl) rfl ?_|refine M1 (B9g t.value v _ _ (by omega) hv) rfl (by kernel_rfl) rfl (fun hm=>?_) (fun hm=>?_)|refine D3 (H5 rfl rfl (by omega)) rfl ?_|refine D3 (B5p A1 ⟨_,rfl,rfl⟩ rfl rfl) rfl ?_)
  ·exact⟨[_],BV.no (by unfold S5;simp[hm,h1]),rfl⟩
  ·exact⟨[_],N9 (by unfold S5;simp[hm,h1]),rfl⟩
theorem A5h(t:Term)(v:ByteArray)(i:Imm)(L:SH)(ht:t.value.size≤1024)(hv:v.size≤1000000):
 E6 E9c 131 [.agg (E9d (H6 t)),.string v] i L fun r i' L'=>BV (S5 t v) r∧L'=L:=by
 refine E6.drop ?_;refine A5 Tryz.func131 rfl rfl (by simp) rfl ?_;by_cases h1:t.op=1
 ·repeat' (first|refine zp rfl ?_|refine zq rfl ?_|refine zn ?_|refine A3 ?_|refine C8 J9 (by kernel_rfl) ?_|refine E4 rfl rfl (fun bt=>?_)|refine F0 (B0 A1 rfl (Has.own 0 rfl) rfl) rfl ?_|refine M1 (B9f t.value v _ _ (by omega) hv) rfl (by kernel_rfl) rfl (fun hm=>?_) (fun hm=>?_)|refine D3 (G9 rfl rfl (by omega)) rfl ?_|refine D3 (B5p A1 ⟨_,rfl,rfl⟩ rfl rfl) rfl ?_)
  ·exact⟨[_],N9 (by unfold S5;simp[hm,h1]),rfl⟩
  ·exact⟨[_],BV.no (by unfold S5;simp[hm,h1]),rfl⟩
 ·repeat' (first|refine zp rfl ?_|refine zq rfl ?_|refine zn ?_|refine A3 ?_|refine C8 J9 (by kernel_rfl) ?_|refine E4 rfl rfl (fun bt=>?_)|refine F0 (B0 A1 rfl (Has.own 0 rfl) rfl) rfl ?_|refine M1 (B9f t.value v _ _ (by omega) hv) rfl (by kernel_rfl) rfl (fun hm=>?_) (fun hm=>?_)|refine D3 (H5 rfl rfl (by omega)) rfl ?_|refine D3 (B5p A1 ⟨_,rfl,rfl⟩ rfl rfl) rfl ?_)
  ·exact⟨[_],BV.no (by unfold S5;simp[hm,h1]),rfl⟩
  ·exact⟨[_],N9 (by unfold S5;simp[hm,h1]),rfl⟩
theorem D4k(t:Term)(d:Dev)(l:List Value)(i:Imm)(L:SH)(hs:Q1 t)(ht:t.value.size≤1024)(hd:R6 i l d):
 E6 E9c 84 [.agg (E9d (H6 t)),.agg (E9d l)] i L fun r i' L'=>BV (S5 t (P6 t d)) r∧L'=L:=by
 refine E6.drop ?_;have hle:=C8x hd t;obtain⟨ao,cap,rfl,hat,hok⟩:=hd;obtain⟨ho,hk⟩:=id hs;refine A5 Tryz.func84 rfl rfl (by simp) rfl ?_;rcases hk with hk|hk|hk|hk
 ·have e0:P6 t d=d.original:=by unfold P6;rw[if_pos hk]
  rw[e0] at hle⊢;repeat' (first|refine zp rfl ?_|refine zn ?_|refine A2 rfl ?_|refine A0 rfl ?_|refine A3 ?_|refine E4 rfl rfl (fun b2=>?_)|refine zo 1 rfl rfl rfl rfl ?_|refine Q7 (A1a t _ _) rfl (by kernel_rfl) rfl (fun i' hi' hst=>?_) (fun i' hi' hst=>absurd hs hst)|refine A6 (G9 rfl rfl (by omega)) rfl ?_|refine zo 0 rfl rfl rfl rfl ?_|(refine A7 (A5h t d.original _ _ ht (by omega)) rfl (by kernel_rfl) rfl ?_;rintro _ i L hi ⟨⟨b,rfl,hb⟩,hLL⟩;subst hLL))
  exact⟨[_,_],⟨b,rfl,hb⟩,rfl⟩
 ·have e0:P6 t d=d.subsystem:=by unfold P6;rw[if_neg (by omega),if_pos hk]
  rw[e0] at hle⊢;repeat' (first|refine zp rfl ?_|refine zn ?_|refine A2 rfl ?_|refine A0 rfl ?_|refine A3 ?_|refine E4 rfl rfl (fun b2=>?_)|refine zo 1 rfl rfl rfl rfl ?_|refine Q7 (A1a t _ _) rfl (by kernel_rfl) rfl (fun i' hi' hst=>?_) (fun i' hi' hst=>absurd hs hst)|refine A6 (H5 rfl rfl (by omega)) rfl ?_|refine A6 (G9 rfl rfl (by omega)) rfl ?_|refine zo 0 rfl rfl rfl rfl ?_|(refine A7 (A5h t d.subsystem _ _ ht (by omega)) rfl (by kernel_rfl) rfl ?_;rintro _ i L hi ⟨⟨b,rfl,hb⟩,hLL⟩;subst hLL))
  exact⟨[_,_],⟨b,rfl,hb⟩,rfl⟩
 ·have e0:P6 t d=d.driver:=by unfold P6;rw[if_neg (by omega),if_neg (by omega),if_pos hk]
  rw[e0] at hle⊢;repeat' (first|refine zp rfl ?_|refine zn ?_|refine A2 rfl ?_|refine A0 rfl ?_|refine A3 ?_|refine E4 rfl rfl (fun b2=>?_)|refine zo 1 rfl rfl rfl rfl ?_|refine Q7 (A1a t _ _) rfl (by kernel_rfl) rfl (fun i' hi' hst=>?_) (fun i' hi' hst=>absurd hs hst)|refine A6 (H5 rfl rfl (by omega)) rfl ?_|refine A6 (G9 rfl rfl (by omega)) rfl ?_|refine zo 0 rfl rfl rfl rfl ?_|(refine A7 (A5h t d.driver _ _ ht (by omega)) rfl (by kernel_rfl) rfl ?_;rintro _ i L hi ⟨⟨b,rfl,hb⟩,hLL⟩;subst hLL))
  exact⟨[_,_],⟨b,rfl,hb⟩,rfl⟩
 ·have e0:P6 t d=A6m d.attrs t.name:=by unfold P6;rw[if_neg (by omega),if_neg (by omega),if_neg (by omega)]
  rw[e0] at hle⊢;repeat' (first|refine zp rfl ?_|refine zn ?_|refine A0 rfl ?_|refine A3 ?_|refine E4 rfl rfl (fun b2=>?_)|refine zo 1 rfl rfl rfl rfl ?_|refine Q7 (A1a t _ _) rfl (by kernel_rfl) rfl (fun i' hi' hst=>?_) (fun i' hi' hst=>absurd hs hst)|refine A6 (H5 rfl rfl (by omega)) rfl ?_|refine zo 0 rfl rfl rfl rfl ?_|(refine A7 (E8h _ d.attrs t.name _ _ (hat.le hi')) rfl (by kernel_rfl) rfl ?_;rintro _ i L hi ⟨⟨b,rfl⟩,hLL⟩;subst hLL)|(refine A7 (A5h t (A6m d.attrs t.name) _ _ ht (by omega)) rfl (by kernel_rfl) rfl ?_;rintro _ i L hi ⟨⟨b,rfl,hb⟩,hLL⟩;subst hLL))
  exact⟨[_,_],⟨b,rfl,hb⟩,rfl⟩
theorem B3x{ts:List Term}{k:Nat}{t:Term}(ht:ts[k]?=some t)(hpre:∀(j:Nat)(u:Term),j<k→ts[j]?=some u→¬(u.key=12∨u.key=14)):E3 (ts.take k)++(if t.key=12∨t.key=14 then [] else if Q1 t then [t] else [])=E3 (ts.take (k+1)):=by
 induction k generalizing ts with
 |zero=>
  cases ts with
  |nil=>cases ht
  |cons u ts=>
   cases ht;simp only[List.take_zero,List.take_succ_cons,E3,List.nil_append]
 |succ k ih=>
  cases ts with
  |nil=>cases ht
  |cons u ts=>
   have h0:=hpre 0 u (by omega) rfl
   have:=ih (ts:=ts) (by simpa using ht) fun j x hj hx=>hpre (j+1) x (by omega) (by simpa using hx)
   simp only[List.take_succ_cons];rw[E3,E3,if_neg h0,if_neg h0];split
   ·rw[List.cons_append,this]
   ·exact this
theorem B3w{ts:List Term}{k:Nat}{t:Term}(ht:ts[k]?=some t)(h:t.key=12∨t.key=14)(hpre:∀(j:Nat)(u:Term),j<k→ts[j]?=some u→¬(u.key=12∨u.key=14)):E3 ts=E3 (ts.take k):=by
 induction k generalizing ts with
 |zero=>
  cases ts with
  |nil=>cases ht
  |cons u ts=>
   cases ht;simp only[List.take_zero,E3,if_pos h]
 |succ k ih=>
  cases ts with
  |nil=>cases ht
  |cons u ts=>
   have h0:=hpre 0 u (by omega) rfl
   have:=ih (ts:=ts) (by simpa using ht) fun j x hj hx=>hpre (j+1) x (by omega) (by simpa using hx)
   simp only[List.take_succ_cons];rw[E3,E3,if_neg h0,if_neg h0,this]
theorem E0t(v:Value)(ts:List Term)(i:Imm)(L:SH)(hv:Sl i v 4 ts.length (terms ts))(hn:ts.length≤1024):
 E6 E9c 83 [v] i L fun r i' L'=>Sl i' r 4 (E3 ts).length (terms (E3 ts))∧L'=L:=by
 refine A9n (e:=54) ?_;obtain⟨ao,cap,rfl,_⟩:=id hv;refine A5 Tryz.func83 rfl rfl (by simp) rfl ?_;repeat' (first|refine zp rfl ?_|refine zn ?_|refine zs [0,1,2] rfl ?_)
 refine B1 [0,3,4] (fun m vs i' L'=>∃(k:Nat)(a2:Option Addr)(c2:Nat)(O:SH),m=ts.length-k∧k≤ts.length∧(∀(j:Nat)(u:Term),j<k→ts[j]?=some u→¬(u.key=12∨u.key=14))∧vs=[.slice ao ts.length cap,.slice a2 (E3 (ts.take k)).length c2,.int .i64 (k:Int)]∧J2 54 (.slice a2 (E3 (ts.take k)).length c2) 4 (E3 (ts.take k)).length (terms (E3 (ts.take k))) O∧i.le i'∧L'=O++L) ts.length ⟨0,none,0,[],rfl,E9k _,U0,rfl,J2.nil 54 4,Imm.le.refl _,rfl⟩ ?_;rintro m g vs i1 _ hi1 ⟨k,a2,c2,O,rfl,hk,hpre,rfl,hO,hle,rfl⟩;by_cases hlt:k<ts.length
 ·obtain⟨t,ht⟩:=zi ts k hlt;obtain⟨b1,o1,c1,t1,z1,p1,e1,g1,q1⟩:=Y4 (hv.le hle) ht;cases e1;have hsn:=B3x ht hpre;have hfl:(E3 (ts.take k)).length≤k:=by have:=A0b (ts:=ts.take k);simp at this;omega
  by_cases hk12:t.key=12∨t.key=14
  ·have hst:=B3w ht hk12 hpre;rcases hk12 with h12|h12
   ·repeat' (first|refine zp rfl ?_|refine zn ?_|refine A2 rfl ?_|refine Q9 rfl ?_|refine zs [3,5,8] rfl ?_|refine zt rfl rfl (by omega) rfl ?_|refine zx rfl rfl rfl (by omega) rfl ?_|refine zm g1 (q1 0 _ rfl) rfl rfl rfl ?_|refine A6 (G9 rfl rfl (by omega)) rfl ?_)
    exact⟨O,by rw[hst];exact hO,rfl⟩
   ·repeat' (first|refine zp rfl ?_|refine zn ?_|refine A2 rfl ?_|refine Q9 rfl ?_|refine zs [3,5,8] rfl ?_|refine zt rfl rfl (by omega) rfl ?_|refine zx rfl rfl rfl (by omega) rfl ?_|refine zm g1 (q1 0 _ rfl) rfl rfl rfl ?_|refine A6 (H5 rfl rfl (by omega)) rfl ?_|refine A6 (G9 rfl rfl (by omega)) rfl ?_)
    exact⟨O,by rw[hst];exact hO,rfl⟩
  ·rw[if_neg hk12] at hsn;repeat' (first|refine zp rfl ?_|refine zn ?_|refine A2 rfl ?_|refine A0 rfl ?_|refine zs [3,4,5,6,7] rfl ?_|refine zt rfl rfl (by omega) rfl ?_|refine zd rfl rfl (by omega) rfl ?_|refine zx rfl rfl rfl (by omega) rfl ?_|refine zm g1 (q1 0 _ rfl) rfl rfl rfl ?_|refine A6 (H5 rfl rfl (by omega)) rfl ?_|refine D4 (D9 (l:=H6 t) A1 rfl (Has.imm g1) rfl rfl rfl q1) rfl ?_|refine Q7 (A1a t _ _) rfl (by kernel_rfl) rfl (fun i' hi' hst=>?_) (fun i' hi' hst=>?_)<;>(replace g1:=hi'.blk _ _ g1;replace hle:=hle.trans hi')|refine A8 A1 4 rfl (J6 rfl rfl rfl (by rfl) (by decide) (by decide) rfl) rfl (fun bz i hi hbs=>?_)|(refine P2 A1 (sz:=4) (bytes:=48) rfl rfl rfl hO (hbs.rd _) ⟨_,rfl,rfl⟩ ⟨_,rfl,rfl,rfl⟩ (by omega) (C0u _) (by omega) (by omega) ?_;intro a3 c3 O' hO'))
   ·rw[if_pos hst] at hsn;exact⟨ts.length-(k+1),by omega,k+1,a3,c3,O',rfl,hlt,S0 (φ:=fun u:Term=>¬(u.key=12∨u.key=14)) ht hk12 hpre,by rw[←hsn,E9h];rfl,by rw[←hsn,E9h,X0];exact hO',hle.trans hi,rfl⟩
   ·rw[if_neg hst,List.append_nil] at hsn;exact⟨ts.length-(k+1),by omega,k+1,a2,c2,O,rfl,hlt,S0 (φ:=fun u:Term=>¬(u.key=12∨u.key=14)) ht hk12 hpre,by rw[←hsn];rfl,by rw[←hsn];exact hO,hle,rfl⟩
 ·obtain rfl:k=ts.length:=by omega
  rw[List.take_length] at hO⊢;repeat' (first|refine zp rfl ?_|refine zn ?_|refine A0 rfl ?_|refine zs [3,8] rfl ?_|refine zf rfl rfl (by omega) rfl ?_)
  exact⟨O,hO,rfl⟩
def fnV(g:Nat):Value:=.func (.func g) #[] #[]
def zz:List Value:=[.bool false,.bool false,.nilFunc]
def stL(g:Nat):List Value:=[.bool true,.bool false,fnV g]
def upL(g:Nat):List Value:=[.bool false,.bool true,fnV g]
def B0c:List Value:=zz++zz++stL 237++stL 238++stL 239++stL 240++zz++zz++upL 237++upL 238++upL 239++upL 240++zz++zz++zz++zz++zz++zz++zz++zz++zz++zz++zz++zz++zz
def A9v:Nat→List Value
 |2=>stL 237
 |3=>stL 238
 |4=>stL 239
 |5=>stL 240
 |8=>upL 237
 |9=>upL 238
 |10=>upL 239
 |11=>upL 240
 |_=>zz
theorem E5r:∀k:Nat,k<25→(B0c.drop (k*3)).take 3=A9v k:=fun k hk=>by
 have:k=0∨k=1∨k=2∨k=3∨k=4∨k=5∨k=6∨k=7∨k=8∨k=9∨k=10∨k=11∨k=12∨k=13∨k=14∨k=15∨k=16∨k=17∨k=18∨k=19∨k=20∨k=21∨k=22∨k=23∨k=24:=by omega
 rcases this with rfl|rfl|rfl|rfl|rfl|rfl|rfl|rfl|rfl|rfl|rfl|rfl|rfl|rfl|rfl|rfl|rfl|rfl|rfl|rfl|rfl|rfl|rfl|rfl|rfl<;>rfl
theorem D0f(k:Nat):∃s u f,A9v k=[.bool s,.bool u,f]∧(f=.nilFunc∨∃g,f=fnV g)∧(s=true↔k=2∨k=3∨k=4∨k=5):=by
 unfold A9v;split<;>exact⟨_,_,_,rfl,by first|exact .inl rfl|exact .inr ⟨_,rfl⟩,by simp_all⟩
theorem D8w{k:Nat}(h:12≤k):A9v k=zz:=by
 unfold A9v;split<;>first|omega|rfl
theorem looks_v(i:Imm)(L:SH):E6 E9c 176 [] i L fun v i' L'=>v=.agg (E9d B0c)∧L'=L:=by
 refine E6.drop ?_;refine O8 A1 Tryz.func176 rfl rfl (by simp) rfl ?_;repeat' (first|refine zp rfl ?_|refine zn ?_|refine zs [0,1,2,3,4] rfl ?_|refine C1 A1 rfl rfl (fun b0=>?_))
 refine zr 5 ?_;iterate 16 refine zp rfl ?_
 refine A6 (v:=.agg (E9d B0c)) (A3g A1 rfl rfl rfl rfl) rfl ?_;refine K7 (k:=0) (vs:=B0c) A1 rfl rfl rfl rfl rfl (List.cons_ne_nil _ _) rfl ?_;refine zn ?_;repeat' (first|refine zn ?_|fail)
 exact⟨_,_,_,_,_,_,rfl,Has.own 0 rfl,A5c rfl rfl rfl,[_],rfl,rfl⟩
def A0r(t:Term):List Value:=if t.op=1∨t.op=2 then(if 0≤t.key then A9v t.key.toNat else zz) else zz
theorem A7h(t:Term):∃s u f,A0r t=[.bool s,.bool u,f]∧(f=.nilFunc∨∃g,f=fnV g)∧(s=true↔Q1 t):=by
 unfold A0r Q1;split
 ·split
  ·obtain⟨s,u,f,h1,h2,h3⟩:=D0f t.key.toNat;exact⟨s,u,f,h1,h2,by rw[h3];omega⟩
  ·exact⟨_,_,_,rfl,.inl rfl,by simp;omega⟩
 ·exact⟨_,_,_,rfl,.inl rfl,by simp;omega⟩
theorem D8x{t:Term}(h:t.key<0∨24<t.key):A0r t=zz:=by
 unfold A0r;by_cases h1:t.op=1∨t.op=2
 ·rw[if_pos h1];by_cases h2:0≤t.key
  ·rw[if_pos h2,D8w (by omega)]
  ·rw[if_neg h2]
 ·rw[if_neg h1]
theorem D8z(t:Term):(A0r t).length=3:=by obtain⟨_,_,_,h,_⟩:=A7h t;rw[h];rfl
theorem D8y(t:Term):∀c∈A0r t,c.oneCell'=true:=by
 obtain⟨_,_,_,h,h2,_⟩:=A7h t;rw[h];rcases h2 with rfl|⟨g,rfl⟩<;>exact F4 rfl
theorem C4q{t:Term}(h:Q1 t):(t.key=2∧A0r t=stL 237)∨(t.key=3∧A0r t=stL 238)∨(t.key=4∧A0r t=stL 239)∨(t.key=5∧A0r t=stL 240):=by
 obtain⟨h1,h2⟩:=h;unfold A0r;rw[if_pos h1];rcases h2 with h2|h2|h2|h2<;>rw[h2]
 ·exact .inl ⟨rfl,rfl⟩
 ·exact .inr (.inl ⟨rfl,rfl⟩)
 ·exact .inr (.inr (.inl ⟨rfl,rfl⟩))
 ·exact .inr (.inr (.inr ⟨rfl,rfl⟩))
theorem PV.look{n:Nat}{f:Fr}{dst:Option Nat}{ty:TypeId}{pos:String}{B4:Array Edge}{gd:Option (Nat×Bool)}{x y:Operand}{k:Int}(hx:ev n f x=.agg (E9d B0c))(hy:ev n f y=.int .i64 k)(hk:0≤k∧k<25):
 PV E9c n f ⟨dst,.index 231 x y,ty,pos,B4,gd⟩ (.agg (E9d (A9v k.toNat))):=by
 have h:PV E9c n f ⟨dst,.index 231 x y,ty,pos,B4,gd⟩ _:=C1v A1 hx hy rfl rfl rfl hk;rw[show((B0c.drop (k.toNat*_)).take _)=A9v k.toNat from E5r k.toNat (by omega)] at h;exact h
theorem B0g(t:Term)(i:Imm)(L:SH):E6 E9c 125 [.agg (E9d (H6 t))] i L fun v i' L'=>v=.agg (E9d (A0r t))∧L'=L:=by
 refine E6.drop ?_;refine O8 A1 Tryz.func125 rfl rfl (by simp) rfl ?_;repeat' (first|refine zp rfl ?_|refine zn ?_|refine A2 rfl ?_|refine A0 rfl ?_|refine zs [0,1,2] rfl ?_|(refine E4 rfl rfl (fun b1=>?_);refine M3 (fun i hi g1=>?_))|refine C1 A1 rfl rfl (fun b2=>?_)|refine D4 (B0 A1 rfl (Has.imm g1) rfl) rfl ?_|refine Q7 (D4e t _ _) rfl (by kernel_rfl) rfl (fun i' hi' hm=>?_) (fun i' hi' hm=>?_)<;>replace g1:=hi'.blk _ _ g1|refine I1 rfl rfl rfl (fun h=>?_) (fun h=>?_)|refine H0 rfl rfl rfl (fun h=>?_) (fun h=>?_)|refine zw 0 rfl rfl rfl rfl ?_)
 all_goals first
  |(refine⟨_,_,_,_,_,_,rfl,Has.own 0 rfl,rfl,[_],?_,rfl⟩
    have e0:A0r t=zz:=D8x (by omega);rw[e0];rfl)
  |(refine⟨_,_,_,_,_,_,rfl,Has.own 0 rfl,rfl,[_],?_,rfl⟩
    have e0:A0r t=zz:=by unfold A0r;rw[if_neg hm]
    rw[e0];rfl)
  |skip
 have e0:A0r t=A9v t.key.toNat:=by unfold A0r;rw[if_pos hm,if_pos (by omega)]
 have hlen:=D8z t;have hone:=D8y t;rw[e0] at hlen hone⊢;refine F9 J9 [0,1,2,3] [4] [] (fun _=>True) (fun L'=>L'=(b2,.cells (E9d zz) 173 (0,0))::L) (by kernel_rfl) (by decide) rfl trivial rfl ?_;refine B6m (v:=.agg (E9d B0c)) rfl rfl rfl rfl (fun i' hi L' _=>⟨rfl,D2 (by kernel_rfl) rfl (looks_v _ _) (fun _ _ _ _ ⟨h,h'⟩=>⟨h',h⟩)⟩) ?_;refine zg rfl rfl rfl ?_;refine D7 (fun i' hi L' _=>B0 A1 rfl (Has.imm (hi.blk _ _ g1)) rfl) rfl rfl rfl rfl rfl rfl ?_;refine E7 (PV.look rfl rfl (by omega)) rfl rfl rfl rfl rfl rfl ?_;refine G1 rfl rfl (fun i2 L2 hi2 _ hA=>?_);subst hA;refine K7 (cs:=zz) (k:=0) A1 rfl rfl rfl rfl (by rw[hlen];rfl) (by intro h;rw[h] at hlen;cases hlen) (K3 rfl hlen hone) ?_;refine zn ?_;repeat' (first|refine zn ?_|fail)
 exact⟨_,_,_,_,_,_,rfl,Has.own 0 rfl,A5c rfl rfl hlen,[_],rfl,rfl⟩
theorem D1d(t:Term)(i:Imm)(L:SH):E6 E9c 122 [.agg (E9d (H6 t))] i L fun v i' L'=>BV (Q1 t) v∧L'=L:=by
 refine E6.drop ?_;obtain⟨s,u,f,h1,h2,h3⟩:=A7h t;refine A5 Tryz.func122 rfl rfl (by simp) rfl ?_;repeat' (first|refine zp rfl ?_|refine zn ?_|refine A3 ?_|refine E4 rfl rfl (fun b1=>?_)|refine zo 0 rfl rfl rfl rfl ?_|(refine A7 (B0g t _ _) rfl (by kernel_rfl) rfl ?_;rintro _ i L' hi ⟨rfl,hLL⟩;subst hLL;rw[h1]))
 exact⟨[_],⟨s,rfl,h3⟩,rfl⟩
theorem E0p(t:Term)(d:Dev)(l:List Value)(i:Imm)(L:SH)(hd:R6 i l d):E6 E9c 237 [.agg (E9d (H6 t)),.agg (E9d l)] i L fun v i' L'=>v=.string d.original∧L'=L:=by
 refine E6.drop ?_;obtain⟨ao,cap,rfl,hat,hok⟩:=hd;refine A5 Tryz.func237 rfl rfl (by simp) rfl ?_;repeat' (first|refine zp rfl ?_|refine zn ?_|refine A3 ?_|refine E4 rfl rfl (fun b1=>?_)|refine zo 0 rfl rfl rfl rfl ?_)
 exact⟨[_,_],rfl,rfl⟩
theorem E0n(t:Term)(d:Dev)(l:List Value)(i:Imm)(L:SH)(hd:R6 i l d):E6 E9c 238 [.agg (E9d (H6 t)),.agg (E9d l)] i L fun v i' L'=>v=.string d.subsystem∧L'=L:=by
 refine E6.drop ?_;obtain⟨ao,cap,rfl,hat,hok⟩:=hd;refine A5 Tryz.func238 rfl rfl (by simp) rfl ?_;repeat' (first|refine zp rfl ?_|refine zn ?_|refine A3 ?_|refine E4 rfl rfl (fun b1=>?_)|refine zo 0 rfl rfl rfl rfl ?_)
 exact⟨[_,_],rfl,rfl⟩
theorem E0m(t:Term)(d:Dev)(l:List Value)(i:Imm)(L:SH)(hd:R6 i l d):E6 E9c 239 [.agg (E9d (H6 t)),.agg (E9d l)] i L fun v i' L'=>v=.string d.driver∧L'=L:=by
 refine E6.drop ?_;obtain⟨ao,cap,rfl,hat,hok⟩:=hd;refine A5 Tryz.func239 rfl rfl (by simp) rfl ?_;repeat' (first|refine zp rfl ?_|refine zn ?_|refine A3 ?_|refine E4 rfl rfl (fun b1=>?_)|refine zo 0 rfl rfl rfl rfl ?_)
 exact⟨[_,_],rfl,rfl⟩
theorem E0k(t:Term)(d:Dev)(l:List Value)(i:Imm)(L:SH)(hd:R6 i l d):E6 E9c 240 [.agg (E9d (H6 t)),.agg (E9d l)] i L fun v i' L'=>v=.string (A6m d.attrs t.name)∧L'=L:=by
 refine E6.drop ?_;obtain⟨ao,cap,rfl,hat,hok⟩:=hd;refine A5 Tryz.func240 rfl rfl (by simp) rfl ?_;repeat' (first|refine zp rfl ?_|refine zn ?_|refine A3 ?_|refine E4 rfl rfl (fun b1=>?_)|refine zo 0 rfl rfl rfl rfl ?_|refine zo 1 rfl rfl rfl rfl ?_|(refine A7 (E8g _ d.attrs t.name _ _ hat) rfl (by kernel_rfl) rfl ?_;rintro _ i L' hi ⟨⟨b,rfl⟩,hLL⟩;subst hLL))
 exact⟨[_,_],rfl,rfl⟩
theorem B0z{P:Program}{n:Nat}{f:Fr}{dst:Option Nat}{ty:TypeId}{pos:String}{B4:Array Edge}{gd:Option (Nat×Bool)}{t t2:Nat}{x y:Operand}{g:Fn}{a c:Array Value}{fs rs:Array TypeId}{vr:Bool}(ht:P.underlying t=some (.func fs rs vr))(hx:ev n f x=.func g a c)(hy:ev n f y=.nilFunc):PV P n f ⟨dst,.binOp .neq t x y t2,ty,pos,B4,gd⟩ (.bool true):=by
 have h0:∀d w,(Op.equalIn (d+1) t (.func g a c) .nilFunc).run P w=.ok false w:=fun d w=>by simp[Op.equalIn,run_underlying ht]
 have h1:∀w,(Op.equal t (.func g a c) .nilFunc).run P w=.ok false w:=fun w=>h0 _ w
 unfold PV;intro w;simp[execOp,hx,hy,eqGuard,binOp,h1,Result.andThen]
theorem D4m(t:Term)(d:Dev)(l:List Value)(i:Imm)(L:SH)(hs:Q1 t)(ht:t.value.size≤1024)(hd:R6 i l d):
 E6 E9c 80 [.agg (E9d (H6 t)),.agg (E9d l)] i L fun r i' L'=>BV (S5 t (P6 t d)) r∧L'=L:=by
 refine E6.drop ?_;have hle:=C8x hd t;have hdi:=hd;obtain⟨ao,cap,rfl,hat,hok⟩:=hd;have hsh:=C4q hs;refine A5 Tryz.func80 rfl rfl (by simp) rfl ?_;rcases hsh with⟨hk,hsh⟩|⟨hk,hsh⟩|⟨hk,hsh⟩|⟨hk,hsh⟩
 ·have e0:P6 t d=d.original:=by unfold P6;rw[if_pos hk]
  rw[e0] at hle⊢;repeat' (first|refine zp rfl ?_|refine zq rfl ?_|refine zn ?_|refine A3 ?_|refine C8 J9 (by kernel_rfl) ?_|refine E4 rfl rfl (fun b2=>?_)|refine zo 1 rfl rfl rfl rfl ?_|(refine A7 (B0g t _ _) rfl (by kernel_rfl) rfl ?_;rintro _ i L' hi ⟨rfl,hLL⟩;subst hLL;rw[hsh])|refine C1 A1 rfl rfl (fun b5=>?_)|refine zw 0 rfl rfl rfl rfl ?_|refine F0 (B0 A1 rfl (Has.own 0 rfl) rfl) rfl ?_|refine D3 (B0z Tryz.underlying171 rfl rfl) rfl ?_|refine F0 (B0 A1 rfl (Has.own 2 rfl) rfl) rfl ?_|refine F0 (B0 A1 rfl (Has.own 1 rfl) rfl) rfl ?_|refine B0w (E0p t d (W4 d (.slice ao d.attrs.length cap)) _ _ (hdi.le (by first|assumption|exact Imm.le.refl _))) rfl rfl (by kernel_rfl) rfl ?_|refine M1 (A5j t (d.original) _ _ ht (by omega)) rfl (by kernel_rfl) rfl (fun hm=>?_) (fun hm=>?_))
  ·exact⟨[_,_,_],N9 hm,rfl⟩
  ·exact⟨[_,_,_],BV.no hm,rfl⟩
 ·have e0:P6 t d=d.subsystem:=by unfold P6;rw[if_neg (by omega),if_pos hk]
  rw[e0] at hle⊢;repeat' (first|refine zp rfl ?_|refine zq rfl ?_|refine zn ?_|refine A3 ?_|refine C8 J9 (by kernel_rfl) ?_|refine E4 rfl rfl (fun b2=>?_)|refine zo 1 rfl rfl rfl rfl ?_|(refine A7 (B0g t _ _) rfl (by kernel_rfl) rfl ?_;rintro _ i L' hi ⟨rfl,hLL⟩;subst hLL;rw[hsh])|refine C1 A1 rfl rfl (fun b5=>?_)|refine zw 0 rfl rfl rfl rfl ?_|refine F0 (B0 A1 rfl (Has.own 0 rfl) rfl) rfl ?_|refine D3 (B0z Tryz.underlying171 rfl rfl) rfl ?_|refine F0 (B0 A1 rfl (Has.own 2 rfl) rfl) rfl ?_|refine F0 (B0 A1 rfl (Has.own 1 rfl) rfl) rfl ?_|refine B0w (E0n t d (W4 d (.slice ao d.attrs.length cap)) _ _ (hdi.le (by first|assumption|exact Imm.le.refl _))) rfl rfl (by kernel_rfl) rfl ?_|refine M1 (A5j t (d.subsystem) _ _ ht (by omega)) rfl (by kernel_rfl) rfl (fun hm=>?_) (fun hm=>?_))
  ·exact⟨[_,_,_],N9 hm,rfl⟩
  ·exact⟨[_,_,_],BV.no hm,rfl⟩
 ·have e0:P6 t d=d.driver:=by unfold P6;rw[if_neg (by omega),if_neg (by omega),if_pos hk]
  rw[e0] at hle⊢;repeat' (first|refine zp rfl ?_|refine zq rfl ?_|refine zn ?_|refine A3 ?_|refine C8 J9 (by kernel_rfl) ?_|refine E4 rfl rfl (fun b2=>?_)|refine zo 1 rfl rfl rfl rfl ?_|(refine A7 (B0g t _ _) rfl (by kernel_rfl) rfl ?_;rintro _ i L' hi ⟨rfl,hLL⟩;subst hLL;rw[hsh])|refine C1 A1 rfl rfl (fun b5=>?_)|refine zw 0 rfl rfl rfl rfl ?_|refine F0 (B0 A1 rfl (Has.own 0 rfl) rfl) rfl ?_|refine D3 (B0z Tryz.underlying171 rfl rfl) rfl ?_|refine F0 (B0 A1 rfl (Has.own 2 rfl) rfl) rfl ?_|refine F0 (B0 A1 rfl (Has.own 1 rfl) rfl) rfl ?_|refine B0w (E0m t d (W4 d (.slice ao d.attrs.length cap)) _ _ (hdi.le (by first|assumption|exact Imm.le.refl _))) rfl rfl (by kernel_rfl) rfl ?_|refine M1 (A5j t (d.driver) _ _ ht (by omega)) rfl (by kernel_rfl) rfl (fun hm=>?_) (fun hm=>?_))
  ·exact⟨[_,_,_],N9 hm,rfl⟩
  ·exact⟨[_,_,_],BV.no hm,rfl⟩
 ·have e0:P6 t d=A6m d.attrs t.name:=by unfold P6;rw[if_neg (by omega),if_neg (by omega),if_neg (by omega)]
  rw[e0] at hle⊢;repeat' (first|refine zp rfl ?_|refine zq rfl ?_|refine zn ?_|refine A3 ?_|refine C8 J9 (by kernel_rfl) ?_|refine E4 rfl rfl (fun b2=>?_)|refine zo 1 rfl rfl rfl rfl ?_|(refine A7 (B0g t _ _) rfl (by kernel_rfl) rfl ?_;rintro _ i L' hi ⟨rfl,hLL⟩;subst hLL;rw[hsh])|refine C1 A1 rfl rfl (fun b5=>?_)|refine zw 0 rfl rfl rfl rfl ?_|refine F0 (B0 A1 rfl (Has.own 0 rfl) rfl) rfl ?_|refine D3 (B0z Tryz.underlying171 rfl rfl) rfl ?_|refine F0 (B0 A1 rfl (Has.own 2 rfl) rfl) rfl ?_|refine F0 (B0 A1 rfl (Has.own 1 rfl) rfl) rfl ?_|refine B0w (E0k t d (W4 d (.slice ao d.attrs.length cap)) _ _ (hdi.le (by first|assumption|exact Imm.le.refl _))) rfl rfl (by kernel_rfl) rfl ?_|refine M1 (A5j t (A6m d.attrs t.name) _ _ ht (by omega)) rfl (by kernel_rfl) rfl (fun hm=>?_) (fun hm=>?_))
  ·exact⟨[_,_,_],N9 hm,rfl⟩
  ·exact⟨[_,_,_],BV.no hm,rfl⟩
def IdxR(φ:Nat→Prop)(n:Nat)(x:Int):Prop:=(x= -1∧∀k,k<n→¬φ k)∨∃k:Nat,k<n∧x=k∧φ k∧∀j,j<k→¬φ j
theorem C0e(v:Value)(n:Nat)(xs:List Value)(g:FuncId)(cap:List Value)(φ:Nat→Prop)(i:Imm)(L:SH)(hs:Sl i v 3 n xs)(hn:n≤2000)(hg:Z2 E9c g=true)
 (hf:∀(k:Nat)(i':Imm)(L':SH),k<n→i.le i'→E6 E9c g ([.agg (E9d (nth 3 xs k))]++cap) i' L' fun r i'' L''=>BV (φ k) r∧L''=L'):
 E6 E9c 70 [v,.func (.func g) #[] (E9d cap)] i L fun r i' L'=>(∃x,r=.int .i64 x∧IdxR φ n x)∧L'=L:=by
 obtain⟨ao,c,rfl,_⟩:=id hs;refine A5 Tryz.func70 rfl rfl (by simp) rfl ?_;repeat' (first|refine zp rfl ?_|refine zn ?_|refine zs [0,1] rfl ?_)
 refine B1 [0,1,7,8] (fun m vs i' L'=>∃k:Nat,m=n-k∧k≤n∧(∀j,j<k→¬φ j)∧vs=[.slice ao n c,.func (.func g) #[] (E9d cap),.int .i64 (n:Int),.int .i64 (k:Int)]∧i.le i'∧L'=L) n ⟨0,rfl,E9k _,fun j h=>absurd h (by omega),rfl,Imm.le.refl _,rfl⟩ ?_;rintro m g0 vs i1 L1 hi1 ⟨k,rfl,hk,hpre,rfl,hle,hLL⟩;subst hLL;by_cases hlt:k<n
 ·obtain⟨b1,o1,c1,t1,z1,p1,e1,g1,hl1,q1⟩:=Sl.nth (hs.le hle) hlt (by omega);cases e1;repeat' (first|refine zp rfl ?_|refine zn ?_|refine A2 rfl ?_|refine zs [2,3] rfl ?_|refine zt rfl rfl (by omega) rfl ?_)
  refine zr 4 ?_;iterate 3 refine zp rfl ?_
  refine zx rfl rfl rfl (by omega) rfl ?_;refine D4 (D9 (l:=nth 3 xs k) A1 rfl (Has.imm g1) rfl rfl hl1 q1) rfl ?_;refine T6 (hf k _ _ hlt hle) rfl rfl hg rfl ?_;rintro _ i2 L2 hi2 ⟨⟨b,rfl,hb⟩,hLL⟩;subst hLL;refine zn ?_;cases b
  ·repeat' (first|refine zn ?_|refine A0 rfl ?_|(refine zr 6 ?_;refine zd rfl rfl (by omega) rfl ?_;refine zp rfl ?_;refine zn ?_))
   refine⟨n-(k+1),by omega,k+1,rfl,hlt,fun j hj=>?_,rfl,hle.trans hi2,rfl⟩;rcases F0m.1 hj with hj|rfl
   ·exact hpre j hj
   ·exact fun h=>Bool.noConfusion (hb.2 h)
  ·repeat' (first|refine zp rfl ?_|refine zn ?_|refine A2 rfl ?_|refine zr 5 ?_)
   exact⟨⟨_,rfl,.inr ⟨k,hlt,rfl,hb.1 rfl,hpre⟩⟩,rfl⟩
 ·repeat' (first|refine zp rfl ?_|refine zn ?_|refine A0 rfl ?_|refine zs [2,7] rfl ?_|refine zf rfl rfl (by omega) rfl ?_)
  exact⟨⟨_,rfl,.inl ⟨rfl,fun j hj=>hpre j (by omega)⟩⟩,rfl⟩
theorem B3g(v:Value)(n:Nat)(xs:List Value)(g:FuncId)(cap:List Value)(φ:Nat→Prop)(i:Imm)(L:SH)(hs:Sl i v 3 n xs)(hn:n≤2000)(hg:Z2 E9c g=true)
 (hf:∀(k:Nat)(i':Imm)(L':SH),k<n→i.le i'→E6 E9c g ([.agg (E9d (nth 3 xs k))]++cap) i' L' fun r i'' L''=>BV (φ k) r∧L''=L'):
 E6 E9c 37 [v,.func (.func g) #[] (E9d cap)] i L fun r i' L'=>BV (∃k,k<n∧φ k) r∧L'=L:=by
 obtain⟨ao,c,rfl,_⟩:=id hs;refine A5 Tryz.func37 rfl rfl (by simp) rfl ?_;repeat' (first|refine zp rfl ?_|refine zn ?_|refine A3 ?_|(refine A7 (C0e _ n xs g cap φ _ _ hs hn hg hf) rfl (by kernel_rfl) rfl ?_;rintro _ i2 L2 hi2 ⟨⟨x,rfl,hx⟩,hLL⟩;subst hLL)|refine Y8 rfl rfl rfl (fun h=>?_) (fun h=>?_))
 all_goals
  rcases hx with⟨rfl,h1⟩|⟨k,hk,rfl,hp,_⟩
  all_goals first
   |(exfalso;omega)
   |exact⟨N9 ⟨k,hk,hp⟩,rfl⟩
   |exact⟨BV.no (fun⟨k,hk,hp⟩=>h1 k hk hp),rfl⟩
theorem C0d(v:Value)(n:Nat)(xs:List Value)(g:FuncId)(cap:List Value)(φ:Nat→Prop)(i:Imm)(L:SH)(hs:Sl i v 4 n xs)(hn:n≤2000)(hg:Z2 E9c g=true)
 (hf:∀(k:Nat)(i':Imm)(L':SH),k<n→i.le i'→E6 E9c g ([.agg (E9d (nth 4 xs k))]++cap) i' L' fun r i'' L''=>BV (φ k) r∧L''=L'):
 E6 E9c 71 [v,.func (.func g) #[] (E9d cap)] i L fun r i' L'=>(∃x,r=.int .i64 x∧IdxR φ n x)∧L'=L:=by
 obtain⟨ao,c,rfl,_⟩:=id hs;refine A5 Tryz.func71 rfl rfl (by simp) rfl ?_;repeat' (first|refine zp rfl ?_|refine zn ?_|refine zs [0,1] rfl ?_)
 refine B1 [0,1,7,8] (fun m vs i' L'=>∃k:Nat,m=n-k∧k≤n∧(∀j,j<k→¬φ j)∧vs=[.slice ao n c,.func (.func g) #[] (E9d cap),.int .i64 (n:Int),.int .i64 (k:Int)]∧i.le i'∧L'=L) n ⟨0,rfl,E9k _,fun j h=>absurd h (by omega),rfl,Imm.le.refl _,rfl⟩ ?_;rintro m g0 vs i1 L1 hi1 ⟨k,rfl,hk,hpre,rfl,hle,hLL⟩;subst hLL;by_cases hlt:k<n
 ·obtain⟨b1,o1,c1,t1,z1,p1,e1,g1,hl1,q1⟩:=Sl.nth (hs.le hle) hlt (by omega);cases e1;repeat' (first|refine zp rfl ?_|refine zn ?_|refine A2 rfl ?_|refine zs [2,3] rfl ?_|refine zt rfl rfl (by omega) rfl ?_)
  refine zr 4 ?_;iterate 3 refine zp rfl ?_
  refine zx rfl rfl rfl (by omega) rfl ?_;refine D4 (D9 (l:=nth 4 xs k) A1 rfl (Has.imm g1) rfl rfl hl1 q1) rfl ?_;refine T6 (hf k _ _ hlt hle) rfl rfl hg rfl ?_;rintro _ i2 L2 hi2 ⟨⟨b,rfl,hb⟩,hLL⟩;subst hLL;refine zn ?_;cases b
  ·repeat' (first|refine zn ?_|refine A0 rfl ?_|(refine zr 6 ?_;refine zd rfl rfl (by omega) rfl ?_;refine zp rfl ?_;refine zn ?_))
   refine⟨n-(k+1),by omega,k+1,rfl,hlt,fun j hj=>?_,rfl,hle.trans hi2,rfl⟩;rcases F0m.1 hj with hj|rfl
   ·exact hpre j hj
   ·exact fun h=>Bool.noConfusion (hb.2 h)
  ·repeat' (first|refine zp rfl ?_|refine zn ?_|refine A2 rfl ?_|refine zr 5 ?_)
   exact⟨⟨_,rfl,.inr ⟨k,hlt,rfl,hb.1 rfl,hpre⟩⟩,rfl⟩
 ·repeat' (first|refine zp rfl ?_|refine zn ?_|refine A0 rfl ?_|refine zs [2,7] rfl ?_|refine zf rfl rfl (by omega) rfl ?_)
  exact⟨⟨_,rfl,.inl ⟨rfl,fun j hj=>hpre j (by omega)⟩⟩,rfl⟩
theorem A0e(v:Value)(n:Nat)(xs:List Value)(g:FuncId)(cap:List Value)(φ:Nat→Prop)(i:Imm)(L:SH)(hs:Sl i v 4 n xs)(hn:n≤2000)(hg:Z2 E9c g=true)
 (hf:∀(k:Nat)(i':Imm)(L':SH),k<n→i.le i'→E6 E9c g ([.agg (E9d (nth 4 xs k))]++cap) i' L' fun r i'' L''=>BV (φ k) r∧L''=L'):
 E6 E9c 39 [v,.func (.func g) #[] (E9d cap)] i L fun r i' L'=>BV (∃k,k<n∧φ k) r∧L'=L:=by
 obtain⟨ao,c,rfl,_⟩:=id hs;refine A5 Tryz.func39 rfl rfl (by simp) rfl ?_;repeat' (first|refine zp rfl ?_|refine zn ?_|refine A3 ?_|(refine A7 (C0d _ n xs g cap φ _ _ hs hn hg hf) rfl (by kernel_rfl) rfl ?_;rintro _ i2 L2 hi2 ⟨⟨x,rfl,hx⟩,hLL⟩;subst hLL)|refine Y8 rfl rfl rfl (fun h=>?_) (fun h=>?_))
 all_goals
  rcases hx with⟨rfl,h1⟩|⟨k,hk,rfl,hp,_⟩
  all_goals first
   |(exfalso;omega)
   |exact⟨N9 ⟨k,hk,hp⟩,rfl⟩
   |exact⟨BV.no (fun⟨k,hk,hp⟩=>h1 k hk hp),rfl⟩
theorem C0g(v:Value)(ts:List Term)(d:Dev)(l:List Value)(i:Imm)(L:SH)(hv:Sl i v 4 ts.length (terms ts))(hn:ts.length≤1024)(hsm:Q6 1024 ts)(hd:R6 i l d):
 E6 E9c 45 [v,.agg (E9d l)] i L fun r i' L'=>BV (A6t ts d) r∧L'=L:=by
 obtain⟨ao,cap,rfl,_⟩:=id hv;obtain⟨da,dc,rfl,hda,hdk⟩:=hd;refine A5 Tryz.func45 rfl rfl (by simp) rfl ?_;repeat' (first|refine zp rfl ?_|refine zn ?_|refine zs [0,1,2] rfl ?_|(refine E4 rfl rfl (fun b3=>?_);refine M3 (fun i hi g3=>?_);replace hv:=hv.le hi;replace hda:=hda.le hi)|(refine A7 (E0t _ ts _ _ hv hn) rfl (by kernel_rfl) rfl ?_;rintro w i L hi ⟨hw,hLL⟩;subst hLL;obtain⟨aw,cw,rfl,_⟩:=id hw;replace g3:=hi.blk _ _ g3;replace hda:=hda.le hi))
 obtain⟨fl,hfl⟩:∃fl,fl=E3 ts:=⟨_,rfl⟩;have hst:∀t∈fl,Q1 t:=by rw[hfl];exact A0n
 have hsb:∀t∈fl,t.value.size≤1024:=by rw[hfl];exact fun t ht=>(hsm t (A2n t ht)).2
 have hfn:fl.length≤1024:=by have:=A0b (ts:=ts);rw[hfl];omega
 unfold A6t;rw[←hfl] at hw⊢;refine B1 [3,5,6] (fun m vs i' L'=>∃k:Nat,m=fl.length-k∧k≤fl.length∧(∀(j:Nat)(u:Term),j<k→fl[j]?=some u→S5 u (P6 u d))∧vs=[.pointer (some ⟨b3,0,none⟩),.slice aw fl.length cw,.int .i64 (k:Int)]∧i.le i'∧L'=L) fl.length ⟨0,rfl,E9k _,U0,rfl,Imm.le.refl _,rfl⟩ ?_;rintro m g vs i1 L1 hi1 ⟨k,rfl,hk,hpre,rfl,hle,hLL⟩;subst hLL;replace hda:=hda.le hle;replace g3:=hle.blk _ _ g3;by_cases hlt:k<fl.length
 ·obtain⟨t,ht⟩:=zi fl k hlt;obtain⟨b1,o1,c1,t1,z1,p1,e1,g1,q1⟩:=Y4 (hw.le hle) ht;cases e1;have htm:=E9g ht;repeat' (first|refine zp rfl ?_|refine zq rfl ?_|refine zn ?_|refine A2 rfl ?_|refine A0 rfl ?_|refine zs [3,4,6] rfl ?_|refine C8 (id:=5) J9 (by kernel_rfl) ?_|refine zt rfl rfl (by omega) rfl ?_|refine zd rfl rfl (by omega) rfl ?_|refine D3 (A9 A1 rfl rfl rfl (by omega)) rfl ?_|refine F0 (D9 (l:=H6 t) A1 rfl (Has.imm g1) rfl rfl rfl q1) rfl ?_|refine F0 (B0 A1 rfl (Has.imm g3) rfl) rfl ?_|refine M1 (D4k t d (W4 d (.slice da d.attrs.length dc)) _ _ (hst t htm) (hsb t htm) ⟨da,dc,rfl,hda,hdk⟩) rfl (by kernel_rfl) rfl (fun hm=>?_) (fun hm=>?_))
  ·exact⟨fl.length-(k+1),by omega,k+1,rfl,hlt,S0 (φ:=fun u:Term=>S5 u (P6 u d)) ht hm hpre,rfl,hle,rfl⟩
  ·exact⟨BV.no (fun h=>hm (h t htm)),rfl⟩
 ·repeat' (first|refine zp rfl ?_|refine zn ?_|refine A0 rfl ?_|refine zs [3,7] rfl ?_|refine zf rfl rfl (by omega) rfl ?_)
  refine⟨N9 (fun u hu=>?_),rfl⟩;obtain⟨j,hj⟩:=F0j.1 hu;exact A4u (φ:=fun u:Term=>S5 u (P6 u d)) (by omega) hpre j u hj
theorem B9p(v:Value)(qs:List Rul)(cs:List Value)(d:Dev)(l:List Value)(i:Imm)(L:SH)(hs:Sl i v 3 qs.length cs)(ha:RVc i cs qs)(hn:qs.length≤2000)(hd:R6 i l d):
 E6 E9c 18 [v,.agg (E9d l)] i L fun r i' L'=>(∃ao n c,r=.slice ao n c∧(n=0↔∀(k:Nat)(q:Rul),qs[k]?=some q→¬A6t q.terms d)∧n≤2000)∧L'=L:=by
 refine E6.drop ?_;obtain⟨ao,cap,rfl,_⟩:=id hs;obtain⟨da,dc,rfl,hda,hdk⟩:=hd;refine A5 Tryz.func18 rfl rfl (by simp) rfl ?_;repeat' (first|refine zp rfl ?_|refine zn ?_|refine zs [0,1,2] rfl ?_|(refine E4 rfl rfl (fun b3=>?_);refine M3 (fun i hi g3=>?_);replace hs:=hs.le hi;replace ha:=ha.le hi;replace hda:=hda.le hi))
 refine B1 [0,3,5,6] (fun m vs i' L'=>∃(k n:Nat)(a2:Option Addr)(c2:Nat)(xs:List Value)(O:SH),m=qs.length-k∧k≤qs.length∧n≤k∧(n=0↔∀(j:Nat)(q:Rul),j<k→qs[j]?=some q→¬A6t q.terms d)∧vs=[.slice ao qs.length cap,.pointer (some ⟨b3,0,none⟩),.slice a2 n c2,.int .i64 (k:Int)]∧J2 3 (.slice a2 n c2) 1 n xs O∧i.le i'∧L'=O++L) qs.length ⟨0,0,none,0,[],[],rfl,E9k _,E9q _,⟨fun _=>U0,fun _=>rfl⟩,rfl,J2.nil 3 1,Imm.le.refl _,rfl⟩ ?_;rintro m g vs i1 _ hi1 ⟨k,n,a2,c2,xs,O,rfl,hk,hnk,hiff,rfl,hO,hle,rfl⟩;replace hda:=hda.le hle;replace g3:=hle.blk _ _ g3;by_cases hlt:k<qs.length
 ·obtain⟨r,hr⟩:=zi qs k hlt;obtain⟨b1,o1,c1,t1,z1,p1,ta1,tc1,e1,g1,q1,hs1,hn1⟩:=RVc.at (hs.le hle) (ha.le hle) hr;cases e1;have hri:=ha.2 k r hr;obtain⟨_,_,_,_,_,hsm1,hfs1⟩:=hri;repeat' (first|refine zp rfl ?_|refine zq rfl ?_|refine zn ?_|refine A2 rfl ?_|refine A0 rfl ?_|refine zs [3,4,6] rfl ?_|refine C8 (id:=5) J9 (by kernel_rfl) ?_|refine zt rfl rfl (by omega) rfl ?_|refine zd rfl rfl (by omega) rfl ?_|refine D3 (A9 A1 rfl rfl rfl (by omega)) rfl ?_|refine F0 (B2 A1 rfl (Has.imm g1) rfl (q1 2 _ rfl)) rfl ?_|refine F0 (B0 A1 rfl (Has.imm g3) rfl) rfl ?_|refine M1 (C0g _ r.terms d (W4 d (.slice da d.attrs.length dc)) _ _ hs1 hn1 hsm1 ⟨da,dc,rfl,hda,hdk⟩) rfl (by kernel_rfl) rfl (fun hm=>?_) (fun hm=>?_)|refine A8 A1 1 rfl rfl rfl (fun bz i hi hbs=>?_)|(refine P2 A1 (sz:=1) (bytes:=8) rfl rfl rfl hO (hbs.rd _) ⟨_,rfl,rfl⟩ ⟨_,rfl,rfl,rfl⟩ (by omega) (F4 rfl) (by omega) (by omega) ?_;intro a3 c3 O' hO'))
  ·refine⟨qs.length-(k+1),by omega,k+1,n+1,a3,c3,_,O',rfl,hlt,by omega,⟨fun h=>absurd h (by omega),fun h=>absurd hm (h k r (by omega) hr)⟩,rfl,hO',hle.trans hi,rfl⟩
  ·refine⟨qs.length-(k+1),by omega,k+1,n,a2,c2,xs,O,rfl,hlt,by omega,?_,rfl,hO,hle,rfl⟩;rw[hiff];constructor
   ·exact fun h=>S0 (φ:=fun q:Rul=>¬A6t q.terms d) hr hm h
   ·exact fun h j q hj hq=>h j q (by omega) hq
 ·repeat' (first|refine zp rfl ?_|refine zn ?_|refine A0 rfl ?_|refine zs [3,7] rfl ?_|refine zf rfl rfl (by omega) rfl ?_)
  refine⟨O,⟨_,_,_,rfl,?_,by omega⟩,rfl⟩;rw[hiff];constructor
  ·exact fun h k q hq=>A4u (φ:=fun q:Rul=>¬A6t q.terms d) (by omega) h k q hq
  ·exact fun h j q _ hq=>h j q hq
theorem E0u(f:ByteArray)(ln:Int)(v:Value)(ts:List Term)(i:Imm)(L:SH)(hv:Sl i v 4 ts.length (terms ts))(hn:ts.length≤1024):
 E6 E9c 73 [.agg #[.string f,.int .i64 ln,v]] i L fun r i' L'=>Sl i' r 4 (E3 ts).length (terms (E3 ts))∧L'=L:=by
 refine E6.state (K:=fun r i' L'=>∃(O G:SH)(x:Nat×Obj),J2 54 r 4 (E3 ts).length (terms (E3 ts)) O∧L'=G++(O++(x::L))) ?_ ?_;rotate_left
 ·rintro r i' L' w _ hst ⟨O,G,x,hO,rfl⟩;obtain⟨i2,h1,h2,h3⟩:=hO.freeze (St.dropMid (A:=O) (G:=[x]) (R:=L) hst.dropL);exact⟨i2,L,h1,h2,h3,rfl⟩
 obtain⟨ao,cap,rfl,_⟩:=id hv;refine A5 Tryz.func73 rfl rfl (by simp) rfl ?_;repeat' (first|refine zp rfl ?_|refine zn ?_|refine zs [0,1,2] rfl ?_|refine E4 rfl rfl (fun b1=>?_)|refine zo 0 rfl rfl rfl rfl ?_)
 refine B1 [3,7,8,9] (fun m vs i' L'=>∃(k:Nat)(a2:Option Addr)(c2:Nat)(O G:SH),m=ts.length-k∧k≤ts.length∧(∀(j:Nat)(u:Term),j<k→ts[j]?=some u→¬(u.key=12∨u.key=14))∧vs=[.slice a2 (E3 (ts.take k)).length c2,.slice ao ts.length cap,.int .i64 (ts.length:Int),.int .i64 (k:Int)]∧J2 54 (.slice a2 (E3 (ts.take k)).length c2) 4 (E3 (ts.take k)).length (terms (E3 (ts.take k))) O∧i.le i'∧L'=G++(O++((b1,E9n [.string f,.int .i64 ln,.slice ao ts.length cap].toArray 52 (0,0))::L))) ts.length ⟨0,none,0,[],[],rfl,E9k _,U0,rfl,J2.nil 54 4,Imm.le.refl _,rfl⟩ ?_;rintro m g vs i1 _ hi1 ⟨k,a2,c2,O,G,rfl,hk,hpre,rfl,hO,hle,rfl⟩;by_cases hlt:k<ts.length
 ·obtain⟨t,ht⟩:=zi ts k hlt;obtain⟨b2,o1,c1,t1,z1,p1,e1,g1,q1⟩:=Y4 (hv.le hle) ht;cases e1;have hsn:=B3x ht hpre;have hfl:(E3 (ts.take k)).length≤k:=by have:=A0b (ts:=ts.take k);simp at this;omega
  by_cases hk12:t.key=12∨t.key=14
  ·have hst:=B3w ht hk12 hpre;rcases hk12 with h12|h12
   all_goals
    repeat' (first|refine zp rfl ?_|refine zn ?_|refine A2 rfl ?_|refine Q9 rfl ?_|refine zs [3,4,5,9] rfl ?_|refine zt rfl rfl (by omega) rfl ?_|refine zx rfl rfl rfl (by omega) rfl ?_|refine D4 (D9 (l:=H6 t) A1 rfl (Has.imm g1) rfl rfl rfl q1) rfl ?_|refine C1 A1 rfl rfl (fun b5=>?_)|refine zw 0 rfl rfl rfl rfl ?_|refine zo 0 rfl rfl rfl rfl ?_|refine A6 (G9 rfl rfl (by omega)) rfl ?_|refine A6 (H5 rfl rfl (by omega)) rfl ?_)
    exact⟨O,_::G,_,by rw[hst];exact hO,rfl⟩
  ·rw[if_neg hk12] at hsn;repeat' (first|refine zp rfl ?_|refine zn ?_|refine A2 rfl ?_|refine A0 rfl ?_|refine zs [3,4,5,6,7,8] rfl ?_|refine zt rfl rfl (by omega) rfl ?_|refine zx rfl rfl rfl (by omega) rfl ?_|refine D4 (D9 (l:=H6 t) A1 rfl (Has.imm g1) rfl rfl rfl q1) rfl ?_|refine C1 A1 rfl rfl (fun b5=>?_)|refine zw 0 rfl rfl rfl rfl ?_|refine zo 0 rfl rfl rfl rfl ?_|refine A6 (H5 rfl rfl (by omega)) rfl ?_|refine Q7 (D1d t _ _) rfl (by kernel_rfl) rfl (fun i' hi' hst=>?_) (fun i' hi' hst=>?_)<;>replace hle:=hle.trans hi'|refine A8 A1 4 rfl (J6 rfl rfl rfl (by rfl) (by decide) (by decide) rfl) rfl (fun bz i hi hbs=>?_)|(refine H7 (D8 (_::G) A1 (sz:=4) (bytes:=48) (m:=1) rfl rfl hO (hbs.rd _) ⟨_,rfl,rfl⟩ ⟨_,rfl,rfl,rfl⟩ (by omega) (C0u _) (by omega) (by omega)) rfl ?_;rintro _ i4 _ hi4 ⟨O',⟨ao',cap',rfl,hO'⟩,rfl⟩)|refine zd rfl rfl (by omega) rfl ?_)
   ·rw[if_pos hst] at hsn;exact⟨ts.length-(k+1),by omega,k+1,ao',cap',O',_::G,rfl,hlt,S0 (φ:=fun u:Term=>¬(u.key=12∨u.key=14)) ht hk12 hpre,by rw[←hsn,E9h];rfl,by rw[←hsn,E9h,X0];exact hO',(hle.trans hi).trans hi4,rfl⟩
   ·rw[if_neg hst,List.append_nil] at hsn;exact⟨ts.length-(k+1),by omega,k+1,a2,c2,O,_::G,rfl,hlt,S0 (φ:=fun u:Term=>¬(u.key=12∨u.key=14)) ht hk12 hpre,by rw[←hsn];rfl,by rw[←hsn];exact hO,hle,rfl⟩
 ·obtain rfl:k=ts.length:=by omega
  rw[List.take_length] at hO⊢;repeat' (first|refine zp rfl ?_|refine zn ?_|refine A0 rfl ?_|refine zs [3,9] rfl ?_|refine zf rfl rfl (by omega) rfl ?_)
  exact⟨O,G,_,hO,rfl⟩
def keyP(fl:List Term)(s:ByteArray):Prop:=∃t∈fl,t.key=3∧t.op=1∧Glob.Lit t.value s
theorem Key74_v(v:Value)(fl:List Term)(i:Imm)(L:SH)(hv:Sl i v 4 fl.length (terms fl))(hn:fl.length≤1024)(hsm:∀t∈fl,t.value.size≤1024):
 E6 E9c 74 [v] i L fun r i' L'=>(∃s b,r=.tuple #[.string s,.bool b]∧(b=true→keyP fl s))∧L'=L:=by
 refine E6.drop ?_;obtain⟨ao,cap,rfl,_⟩:=id hv;refine G4 Tryz.func74 rfl rfl (by simp) rfl ?_;repeat' (first|refine zp rfl ?_|refine zn ?_|refine zs [0,1] rfl ?_)
 refine B1 [8,9,10] (fun m vs i' L'=>∃(k:Nat)(G:SH),m=fl.length-k∧k≤fl.length∧vs=[.slice ao fl.length cap,.int .i64 (fl.length:Int),.int .i64 (k:Int)]∧i.le i'∧L'=G++L) fl.length ⟨0,[],rfl,E9k _,rfl,Imm.le.refl _,rfl⟩ ?_;rintro m g vs i1 _ hi1 ⟨k,G,rfl,hk,rfl,hle,rfl⟩;by_cases hlt:k<fl.length
 ·obtain⟨t,ht⟩:=zi fl k hlt;obtain⟨b2,o1,c1,t1,z1,p1,e1,g1,q1⟩:=Y4 (hv.le hle) ht;cases e1;have htm:=E9g ht;have hts:=hsm t htm;repeat' (first|refine zp rfl ?_|refine zn ?_|refine A2 rfl ?_|refine A0 rfl ?_|refine zs [2,3,4,5,6,7] rfl ?_|refine zt rfl rfl (by omega) rfl ?_|refine zx rfl rfl rfl (by omega) rfl ?_|refine D4 (D9 (l:=H6 t) A1 rfl (Has.imm g1) rfl rfl rfl q1) rfl ?_|refine C1 A1 rfl rfl (fun b5=>?_)|refine zw 0 rfl rfl rfl rfl ?_|refine zo 0 rfl rfl rfl rfl ?_|(refine A7 (C5g t.value _ _ (by omega)) rfl (by kernel_rfl) rfl ?_;rintro _ i2 L2 hi2 ⟨⟨s,b,rfl,hb⟩,hLL⟩;subst hLL;cases b)|refine E1 rfl rfl rfl (fun h=>?_) (fun h=>?_)|refine zd rfl rfl (by omega) rfl ?_)
  all_goals first
   |exact⟨fl.length-(k+1),by omega,k+1,_::G,rfl,hlt,rfl,hle.trans hi2,rfl⟩
   |exact⟨_::G,⟨_,_,rfl,fun _=>⟨t,htm,by omega,by omega,hb rfl⟩⟩,rfl⟩
 ·repeat' (first|refine zp rfl ?_|refine zn ?_|refine A0 rfl ?_|refine zs [2,8] rfl ?_|refine zf rfl rfl (by omega) rfl ?_)
  exact⟨G,⟨_,_,rfl,fun h=>by cases h⟩,rfl⟩
theorem D9d(t:Term)(i:Imm)(L:SH):E6 E9c 40 [.agg (E9d (H6 t))] i L fun r i' L'=>BV (t.key=23∨t.key=24) r∧L'=L:=by
 refine E6.drop ?_;refine A5 Tryz.func40 rfl rfl (by simp) rfl ?_;repeat' (first|refine zp rfl ?_|refine zn ?_|refine A3 ?_|refine E4 rfl rfl (fun b1=>?_)|refine zo 0 rfl rfl rfl rfl ?_|refine E1 rfl rfl rfl (fun h=>?_) (fun h=>?_))
 all_goals first|exact⟨[_],N9 (by omega),rfl⟩|exact⟨[_],BV.no (by omega),rfl⟩
theorem D9b(t:Term)(i:Imm)(L:SH):E6 E9c 75 [.agg (E9d (H6 t))] i L fun r i' L'=>BV (t.key=23) r∧L'=L:=by
 refine E6.drop ?_;refine A5 Tryz.func75 rfl rfl (by simp) rfl ?_;repeat' (first|refine zp rfl ?_|refine zn ?_|refine A3 ?_|refine E4 rfl rfl (fun b1=>?_)|refine zo 0 rfl rfl rfl rfl ?_|refine E1 rfl rfl rfl (fun h=>?_) (fun h=>?_))
 all_goals first|exact⟨[_],N9 (by omega),rfl⟩|exact⟨[_],BV.no (by omega),rfl⟩
theorem B2b{ts:List Term}{k:Nat}{t:Term}(h:ts[k]?=some t):nth 4 (terms ts) k=H6 t:=by
 obtain⟨A,B,rfl,rfl⟩:=A0v h;have e:terms (A++t::B)=terms A++(H6 t++terms B):=by simp[terms]
 unfold nth;rw[e,←A7y A,List.drop_append_of_le_length (E9q _),List.drop_length,List.nil_append];rfl
theorem D0h(f:ByteArray)(ln:Int)(v:Value)(ts:List Term)(i:Imm)(L:SH)(hv:Sl i v 4 ts.length (terms ts))(hn:ts.length≤1024):
 E6 E9c 38 [.agg #[.string f,.int .i64 ln,v]] i L fun r i' L'=>BV (A3w ts) r∧L'=L:=by
 refine E6.drop ?_;obtain⟨ao,cap,rfl,_⟩:=id hv;refine A5 Tryz.func38 rfl rfl (by simp) rfl ?_;repeat' (first|refine zp rfl ?_|refine zn ?_|refine zr 0 ?_|refine E4 rfl rfl (fun b1=>?_))
 refine zr 1 ?_;refine zp rfl ?_;refine zo 0 rfl rfl rfl rfl ?_;refine A7 (A0e _ ts.length (terms ts) 40 [] (fun k=>∃t,ts[k]?=some t∧(t.key=23∨t.key=24)) _ _ hv (by omega) (by kernel_rfl) (fun k i' L' hk _=>?_)) rfl (by kernel_rfl) rfl ?_
 ·obtain⟨t,ht⟩:=zi ts k hk;rw[B2b ht]
  refine(D9d t i' L').mono fun _ _ _ _ ⟨h1,h2⟩=>⟨h1.iff ?_,h2⟩
  constructor
  ·exact fun h=>⟨t,ht,h⟩
  ·rintro⟨u,hu,h⟩;rw[ht] at hu;cases hu;exact h
 rintro _ i2 L2 hi2 ⟨⟨b,rfl,hb⟩,hLL⟩;subst hLL;refine zp rfl ?_;refine zn ?_;repeat' (first|refine zn ?_|fail)
 refine⟨[_],⟨b,rfl,hb.trans ?_⟩,rfl⟩;unfold A3w;constructor
 ·rintro⟨k,_,t,ht,h⟩;exact⟨t,E9g ht,h⟩
 ·rintro⟨t,ht,h⟩
  obtain⟨k,hk⟩:=F0j.1 ht;exact⟨k,(E9e.1 hk).1,t,hk,h⟩
theorem D3f(t:Term)(d:Dev)(bd:Nat)(l:List Value)(i:Imm)(L:SH)(hs:Q1 t)(ht:t.value.size≤1024)(hd:R6 i l d)(gd:i.blk bd=some (.cells (E9d l) 56 (0,0))):
 E6 E9c 79 [.agg (E9d (H6 t)),.pointer (some ⟨bd,0,none⟩)] i L fun r i' L'=>BV (¬S5 t (P6 t d)) r∧L'=L:=by
 refine E6.drop ?_;have hdi:=hd;obtain⟨ao,cap,rfl,hat,hok⟩:=hd;refine A5 Tryz.func79 rfl rfl (by simp) rfl ?_;repeat' (first|refine zp rfl ?_|refine zn ?_|refine A3 ?_|refine E4 rfl rfl (fun b1=>?_)|refine zo 0 rfl rfl rfl rfl ?_|refine D4 (B0 A1 rfl (Has.imm gd) rfl) rfl ?_|refine Q7 (D4m t d (W4 d (.slice ao d.attrs.length cap)) _ _ hs ht hdi) rfl (by kernel_rfl) rfl (fun i' hi' hm=>?_) (fun i' hi' hm=>?_))
 ·exact⟨[_],BV.no (fun h=>h hm),rfl⟩
 ·exact⟨[_],N9 hm,rfl⟩
def A3y(i:Imm)(ao:Option Addr)(c:Nat)(l:List Int):Prop:=Sl i (.slice ao l.length c) 1 l.length (I3 l)∧B6c ao l.length c∧l.length≤2000
theorem A3y.le{i i':Imm}{ao:Option Addr}{c:Nat}{l:List Int}(h:A3y i ao c l)(hi:i.le i'):A3y i' ao c l:=⟨h.1.le hi,h.2⟩
theorem A3y.at0{i:Imm}{ao:Option Addr}{c:Nat}{x:Int}{l:List Int}(h:A3y i ao c (x::l)):∃b o cs t z,ao=some ⟨b,o,none⟩∧i.blk b=some (.cells (E9d cs) t z)∧cs[o+(0:Int).toNat*1]?=some (.int .i64 x):=by
 obtain⟨b1,o1,c1,t1,z1,p1,e1,g1,h1⟩:=h.1.at (k:=0) (by simp) (by omega);cases e1;have q:=h1 0 (by omega);exact⟨b1,o1,c1,t1,z1,rfl,g1,by simpa [I3] using q⟩
theorem A3y.tail{i:Imm}{ao:Option Addr}{c:Nat}{x:Int}{l:List Int}(h:A3y i ao c (x::l)):A3y i (X9 ao c 1 1) (c-1) l:=by
 obtain⟨h1,h2,h3⟩:=h;have a1:=Sl.tail (k:=1) h1 h2 (by simp);have a2:=B6c.tail (j:=1) (sz:=1) h2 (by simp);have e1:(x::l).length-1=l.length:=by simp
 rw[e1] at a1 a2;exact⟨by simpa [I3] using a1,a2,by simp at h3;omega⟩
theorem mem3{A X X' Y Y':Prop}(h1:A∨X↔A∨X')(h2:A∨Y↔A∨Y'):A∨X∨Y↔A∨X'∨Y':=by
 constructor
 ·rintro(h|h|h)
  ·exact .inl h
  ·exact(h1.1 (.inr h)).imp id .inl
  ·exact(h2.1 (.inr h)).imp id .inr
 ·rintro(h|h|h)
  ·exact .inl h
  ·exact(h1.2 (.inr h)).imp id .inl
  ·exact(h2.2 (.inr h)).imp id .inr
theorem D4c(aa ba:Option Addr)(ac bc:Nat)(a b:List Int)(i:Imm)(L:SH)(ha:A3y i aa ac a)(hb:A3y i ba bc b):
 E6 E9c 77 [.slice aa a.length ac,.slice ba b.length bc] i L fun r i' L'=>∃(l:List Int)(O:SH),J2 3 r 1 l.length (I3 l) O∧(∀x,x∈l↔x∈a∨x∈b)∧l.length≤4000∧L'=O++L:=by
 refine A5 Tryz.func77 rfl rfl (by simp) rfl ?_;repeat' (first|refine zp rfl ?_|refine zn ?_|refine zs [0,1] rfl ?_)
 refine B1 [0,1,5] (fun m vs i' L'=>∃(a' b' l:List Int)(aa ba a2:Option Addr)(ac bc c2:Nat)(O:SH),m=a'.length+b'.length∧A3y i' aa ac a'∧A3y i' ba bc b'∧l.length+a'.length+b'.length≤a.length+b.length∧(∀x,x∈l∨x∈a'∨x∈b'↔x∈a∨x∈b)∧vs=[.slice aa a'.length ac,.slice ba b'.length bc,.slice a2 l.length c2]∧J2 3 (.slice a2 l.length c2) 1 l.length (I3 l) O∧L'=O++L) _ ⟨a,b,[],aa,ba,none,ac,bc,0,[],rfl,ha,hb,by simp,by simp,rfl,J2.nil 3 1,rfl⟩ ?_;have hla:=ha.2.2;have hlb:=hb.2.2;clear ha hb;rintro m g vs i _ hi ⟨a',b',l,aa,ba,a2,ac,bc,c2,O,rfl,ha,hb,hll,hmem,rfl,hO,rfl⟩;cases a' with
 |nil=>
  have hz:([]:List Int).length=0:=rfl;repeat' (first|refine zp rfl ?_|refine zn ?_|refine A0 rfl ?_|refine zr 2 ?_|refine A6 (I0 rfl rfl (by omega)) rfl ?_)
  refine zr 9 ?_;iterate 2 refine zp rfl ?_
  refine P2 A1 (sz:=1) (bytes:=8) rfl rfl rfl hO (ha.1.rd _) ⟨_,rfl,rfl⟩ ⟨_,rfl,rfl,rfl⟩ (by omega) (A8b _) (by simp;omega) (by simp;omega) ?_;intro a3 c3 O' hO';refine zp rfl ?_;refine P2 A1 (sz:=1) (bytes:=8) rfl rfl rfl hO' (hb.1.rd _) ⟨_,rfl,rfl⟩ ⟨_,rfl,rfl,rfl⟩ (by omega) (A8b _) (by simp;omega) (by simp;omega) ?_;intro a4 c4 O2 hO2;refine zp rfl ?_;refine zn ?_;repeat' (first|refine zn ?_|fail)
  refine⟨l++b',O2,?_,fun x=>?_,by simp;omega,rfl⟩
  ·rw[show(l++b').length=l.length+([]:List Int).length+b'.length by simp,show I3 (l++b')=I3 l++I3 []++I3 b' by simp[I3]];exact hO2
  ·rw[←hmem];simp
 |cons x a'=>
  have hx1:(x::a').length=a'.length+1:=rfl;cases b' with
  |nil=>
   have hz:([]:List Int).length=0:=rfl;repeat' (first|refine zp rfl ?_|refine zn ?_|refine A0 rfl ?_|refine zr 2 ?_|refine A6 (J4 rfl rfl (by omega)) rfl ?_|refine A6 (I0 rfl rfl (by omega)) rfl ?_)
   refine zr 9 ?_;iterate 2 refine zp rfl ?_
   refine P2 A1 (sz:=1) (bytes:=8) rfl rfl rfl hO (ha.1.rd _) ⟨_,rfl,rfl⟩ ⟨_,rfl,rfl,rfl⟩ (by omega) (A8b _) (by simp at hll⊢;omega) (by simp at hll⊢;omega) ?_;intro a3 c3 O' hO';refine zp rfl ?_;refine P2 A1 (sz:=1) (bytes:=8) rfl rfl rfl hO' (hb.1.rd _) ⟨_,rfl,rfl⟩ ⟨_,rfl,rfl,rfl⟩ (by omega) (A8b _) (by simp at hll⊢;omega) (by simp at hll⊢;omega) ?_;intro a4 c4 O2 hO2;refine zp rfl ?_;refine zn ?_;repeat' (first|refine zn ?_|fail)
   refine⟨l++(x::a'),O2,?_,fun y=>?_,by simp at hll⊢;omega,rfl⟩
   ·rw[show(l++(x::a')).length=l.length+(x::a').length+([]:List Int).length by simp,show I3 (l++(x::a'))=I3 l++I3 (x::a')++I3 [] by simp[I3]];exact hO2
   ·rw[←hmem];simp
  |cons y b'=>
   obtain⟨b1,o1,c1,t1,z1,rfl,g1,q1⟩:=ha.at0;obtain⟨b2,o2,c3,t2,z2,rfl,g2,q2⟩:=hb.at0;have hta:=ha.tail;have htb:=hb.tail;have hpa:=ha.2.1;have hpb:=hb.2.1;have hy1:(y::b').length=b'.length+1:=rfl;have e0:=T8 l (min x y);have e1:(l++[min x y]).length=l.length+1:=by simp
   have cut:∀(u:Int)(s:List Int),u=min x y→∀z,(z∈l++[min x y]∨z∈s)↔(z∈l++[min x y]∨z∈(u::s)):=fun u s h z=>by
    rw[h];simp only[E9r,F0b,List.not_mem_nil,or_false];constructor
    ·rintro((h1|h1)|h1)
     ·exact .inl (.inl h1)
     ·exact .inl (.inr h1)
     ·exact .inr (.inr h1)
    ·rintro((h1|h1)|h1|h1)
     ·exact .inl (.inl h1)
     ·exact .inl (.inr h1)
     ·exact .inl (.inr h1)
     ·exact .inr h1
   have hm1:∀z,z∈l∨z∈(x::a')∨z∈(y::b')↔z∈l++[min x y]∨z∈(x::a')∨z∈(y::b'):=fun z=>by
    simp only[E9r,F0b,List.mem_singleton,List.not_mem_nil,or_false];constructor
    ·rintro(h|h)
     ·exact .inl (.inl h)
     ·exact .inr h
    ·rintro((h|h)|h)
     ·exact .inl h
     ·rcases(show z=x∨z=y by omega) with h|h
      ·exact .inr (.inl (.inl h))
      ·exact .inr (.inr (.inl h))
     ·exact .inr h
   repeat' (first|refine zp rfl ?_|refine zq rfl ?_|refine zn ?_|refine A2 rfl ?_|refine zr 2 ?_|refine C8 (id:=3) J9 (by kernel_rfl) ?_|refine A6 (J4 rfl rfl (by omega)) rfl ?_|refine D3 (A9 A1 rfl rfl rfl (by omega)) rfl ?_|refine F0 (B2 A1 rfl (Has.imm g1) rfl q1) rfl ?_|refine F0 (B2 A1 rfl (Has.imm g2) rfl q2) rfl ?_|refine D3 (D7k rfl rfl) rfl ?_)
   refine zr 4 ?_;iterate 2 refine zp rfl ?_
   refine A8 A1 1 rfl rfl rfl (fun bz i hi hbs=>?_);refine P2 A1 (sz:=1) (bytes:=8) rfl rfl rfl hO (hbs.rd _) ⟨_,rfl,rfl⟩ ⟨_,rfl,rfl,rfl⟩ (by omega) (F4 rfl) (by omega) (by omega) ?_;intro a3 c3 O' hO';refine zp rfl ?_;refine zn ?_;replace g1:=hi.blk _ _ g1;replace g2:=hi.blk _ _ g2;have hO3:J2 3 (.slice a3 (l++[min x y]).length c3) 1 (l++[min x y]).length (I3 (l++[min x y])) O':=by rw[e1,e0];exact hO'
   rcases Int.lt_trichotomy x y with hxy|hxy|hxy
   ·repeat' (first|refine zp rfl ?_|refine zn ?_|refine A2 rfl ?_|refine A0 rfl ?_|refine zs [5,6,7] rfl ?_|refine zx rfl rfl rfl (by omega) rfl ?_|refine zm g1 q1 rfl rfl rfl ?_|refine A6 (G9 rfl rfl (by omega)) rfl ?_|refine A6 (A3d (j:=1) A1 rfl rfl rfl hpa (by omega)) rfl ?_|refine zm g2 q2 rfl rfl rfl ?_|refine A6 (H5 rfl rfl (by omega)) rfl ?_)
    exact⟨a'.length+(y::b').length,by omega,a',y::b',l++[min x y],_,_,a3,_,_,c3,O',rfl,hta.le hi,hb.le hi,by omega,fun z=>by rw[←hmem,hm1];exact mem3 (cut x a' (by omega) z) Iff.rfl,by rw[e1];rfl,hO3,rfl⟩
   ·repeat' (first|refine zp rfl ?_|refine zn ?_|refine A2 rfl ?_|refine zs [5,6,7,8] rfl ?_|refine zx rfl rfl rfl (by omega) rfl ?_|refine zm g1 q1 rfl rfl rfl ?_|refine A6 (G9 rfl rfl (by omega)) rfl ?_|refine A6 (A3d (j:=1) A1 rfl rfl rfl hpa (by omega)) rfl ?_|refine zm g2 q2 rfl rfl rfl ?_|refine A6 (A3d (j:=1) A1 rfl rfl rfl hpb (by omega)) rfl ?_)
    exact⟨a'.length+b'.length,by omega,a',b',l++[min x y],_,_,a3,_,_,c3,O',rfl,hta.le hi,htb.le hi,by omega,fun z=>by rw[←hmem,hm1];exact mem3 (cut x a' (by omega) z) (cut y b' (by omega) z),by rw[e1];rfl,hO3,rfl⟩
   ·repeat' (first|refine zp rfl ?_|refine zn ?_|refine A2 rfl ?_|refine A0 rfl ?_|refine zs [5,7,8] rfl ?_|refine zx rfl rfl rfl (by omega) rfl ?_|refine zm g1 q1 rfl rfl rfl ?_|refine A6 (H5 rfl rfl (by omega)) rfl ?_|refine zm g2 q2 rfl rfl rfl ?_|refine A6 (G9 rfl rfl (by omega)) rfl ?_|refine A6 (A3d (j:=1) A1 rfl rfl rfl hpb (by omega)) rfl ?_)
    exact⟨(x::a').length+b'.length,by omega,x::a',b',l++[min x y],_,_,a3,_,_,c3,O',rfl,ha.le hi,htb.le hi,by omega,fun z=>by rw[←hmem,hm1];exact mem3 Iff.rfl (cut y b' (by omega) z),by rw[e1];rfl,hO3,rfl⟩
theorem B9k(ao:Option Addr)(c:Nat)(l:List Int)(g:FuncId)(cap:List Value)(φ:Int→Prop)(i:Imm)(L:SH)(hn:l.length≤10000)(hg:Z2 E9c g=true)
 (hs:∀(k:Nat)(x:Int),l[k]?=some x→∃b o cs t z,ao=some ⟨b,o,none⟩∧(b,E9n (E9d cs) t z)∈L∧cs[o+((k:Nat):Int).toNat*1]?=some (.int .i64 x))
 (hf:∀(x:Int)(i':Imm)(L':SH),x∈l→i.le i'→E6 E9c g ([.int .i64 x]++cap) i' L' fun r i'' L''=>BV (φ x) r∧L''=L'):
 E6 E9c 124 [.slice ao l.length c,.func (.func g) #[] (E9d cap)] i L fun r i' L'=>(∃x,r=.int .i64 x∧IdxR (fun k=>∃x,l[k]?=some x∧φ x) l.length x)∧L'=L:=by
 refine A5 Tryz.func124 rfl rfl (by simp) rfl ?_;repeat' (first|refine zp rfl ?_|refine zn ?_|refine zs [0,1] rfl ?_)
 refine B1 [0,1,7,8] (fun m vs i' L'=>∃k:Nat,m=l.length-k∧k≤l.length∧(∀(j:Nat)(x:Int),j<k→l[j]?=some x→¬φ x)∧vs=[.slice ao l.length c,.func (.func g) #[] (E9d cap),.int .i64 (l.length:Int),.int .i64 (k:Int)]∧i.le i'∧L'=L) l.length ⟨0,rfl,E9k _,U0,rfl,Imm.le.refl _,rfl⟩ ?_;rintro m g0 vs i1 L1 hi1 ⟨k,rfl,hk,hpre,rfl,hle,hLL⟩;subst hLL;by_cases hlt:k<l.length
 ·obtain⟨x,hx⟩:=zi l k hlt;obtain⟨b1,o1,c1,t1,z1,rfl,g1,q1⟩:=hs k x hx;repeat' (first|refine zp rfl ?_|refine zn ?_|refine A2 rfl ?_|refine zs [2,3] rfl ?_|refine zt rfl rfl (by omega) rfl ?_)
  refine zr 4 ?_;iterate 3 refine zp rfl ?_
  refine zx rfl rfl rfl (by omega) rfl ?_;refine D4 (B2 A1 rfl (Has.mem g1) rfl q1) rfl ?_;refine T6 (hf x _ _ (E9g hx) hle) rfl rfl hg rfl ?_;rintro _ i2 L2 hi2 ⟨⟨b,rfl,hb⟩,hLL⟩;subst hLL;refine zn ?_;cases b
  ·repeat' (first|refine zn ?_|refine A0 rfl ?_|(refine zr 6 ?_;refine zd rfl rfl (by omega) rfl ?_;refine zp rfl ?_;refine zn ?_))
   exact⟨l.length-(k+1),by omega,k+1,rfl,hlt,S0 (φ:=fun x:Int=>¬φ x) hx (fun h=>Bool.noConfusion (hb.2 h)) hpre,rfl,hle.trans hi2,rfl⟩
  ·repeat' (first|refine zp rfl ?_|refine zn ?_|refine A2 rfl ?_|refine zr 5 ?_)
   exact⟨⟨_,rfl,.inr ⟨k,hlt,rfl,⟨x,hx,hb.1 rfl⟩,fun j hj ⟨y,hy,hp⟩=>hpre j y hj hy hp⟩⟩,rfl⟩
 ·repeat' (first|refine zp rfl ?_|refine zn ?_|refine A0 rfl ?_|refine zs [2,7] rfl ?_|refine zf rfl rfl (by omega) rfl ?_)
  exact⟨⟨_,rfl,.inl ⟨rfl,fun j hj ⟨y,hy,hp⟩=>hpre j y (by omega) hy hp⟩⟩,rfl⟩
theorem C1e(l:List Int)(k:Nat):(I3 l)[k]?=l[k]?.map (F0u .i64):=by simp[I3]
theorem E5w{ao:Option Addr}{c:Nat}{l:List Int}{O:SH}(h:J2 3 (.slice ao l.length c) 1 l.length (I3 l) O)(k:Nat)(x:Int)(hx:l[k]?=some x):∃b o cs t z,ao=some ⟨b,o,none⟩∧(b,E9n (E9d cs) t z)∈O∧cs[o+((k:Nat):Int).toNat*1]?=some (.int .i64 x):=by
 have hk:=(E9e.1 hx).1;obtain⟨hl,⟨_,h0,_⟩|⟨g,c',sp,he,h2,h3,rfl⟩⟩:=h
 ·omega
 ·cases he;refine⟨g,0,_,_,_,rfl,List.mem_singleton.2 rfl,?_⟩;rw[show(0+((k:Nat):Int).toNat*1)=k by omega,E9t (by rw[hl];omega),C1e,hx];rfl
theorem B9m(v:Value)(l:List Int)(O:SH)(g:FuncId)(cap:List Value)(φ:Int→Prop)(i:Imm)(L0:SH)(hv:J2 3 v 1 l.length (I3 l) O)(hn:l.length≤10000)(hg:Z2 E9c g=true)
 (hf:∀(x:Int)(i':Imm)(L':SH),x∈l→i.le i'→E6 E9c g ([.int .i64 x]++cap) i' L' fun r i'' L''=>BV (φ x) r∧L''=L'):
 E6 E9c 76 [v,.func (.func g) #[] (E9d cap)] i (O++L0) fun r i' L'=>(∃ao m c,r=.slice ao m c∧(m=0↔∀x∈l,φ x))∧L'=L0:=by
 refine E6.state (K:=fun r i' L'=>∃G:SH,(∃ao m c,r=.slice ao m c∧(m=0↔∀x∈l,φ x))∧L'=G++L0) ?_ ?_;rotate_left
 ·rintro r i' L' w _ hst ⟨G,h1,rfl⟩;exact⟨i',L0,Imm.le.refl _,hst.dropL,h1,rfl⟩
 obtain⟨ao,c,rfl⟩:=hv.shape;refine A5 Tryz.func76 rfl rfl (by simp) rfl ?_;repeat' (first|refine zp rfl ?_|refine zn ?_|refine zs [0,1] rfl ?_|(refine A7 (B9k ao c l g cap φ _ _ hn hg (fun k x hx=>by obtain⟨b,o,cs,t,z,h1,h2,h3⟩:=E5w hv k x hx;exact⟨b,o,cs,t,z,h1,F1p _ h2,h3⟩) hf) rfl (by kernel_rfl) rfl ?_;rintro _ i2 L2 hi2 ⟨⟨x,rfl,hx⟩,hLL⟩;subst hLL))
 rcases hx with⟨rfl,h1⟩|⟨k,hk,rfl,⟨x0,hx0,hp0⟩,h1⟩
 ·repeat' (first|refine zp rfl ?_|refine zn ?_|refine A2 rfl ?_|refine A3 ?_|refine A6 (G9 rfl rfl (by omega)) rfl ?_)
  refine⟨O,⟨_,_,_,rfl,?_⟩,rfl⟩;constructor
  ·intro h y hy;rw[F0t h] at hy;cases hy
  ·intro h;rcases Nat.eq_zero_or_pos l.length with h0|h0
   ·exact h0
   ·exact absurd ⟨_,E9v h0,h _ (List.getElem_mem h0)⟩ (h1 0 h0)
 obtain⟨hl,⟨_,h0,_⟩|⟨b,c',sp,he,h2,h3,rfl⟩⟩:=hv
 ·omega
 cases he;repeat' (first|refine zp rfl ?_|refine zn ?_|refine A0 rfl ?_|refine zs [2,4] rfl ?_|refine A6 (H5 rfl rfl (by omega)) rfl ?_|refine zd rfl rfl (by omega) rfl ?_)
 refine B1 [0,1,5,6] (fun m vs i' L'=>∃(q j:Nat)(cs:List Value),m=l.length-j∧q≤j∧j≤l.length∧cs.length=c∧(∀s,j≤s→s<l.length→cs[s]?=(I3 l)[s]?)∧(q=0↔∀s x,s<j→l[s]?=some x→φ x)∧vs=[.slice (some ⟨b,0,none⟩) l.length c,.func (.func g) #[] (E9d cap),.int .i64 (q:Int),.int .i64 (j:Int)]∧i.le i'∧L'=(b,E9n (E9d cs) 3 (0,0))::L0) _ ⟨k,k+1,_,rfl,by omega,hk,by simpa using h3,fun s _ hs=>E9t (by rw[hl];omega),?_,rfl,hi2,rfl⟩ ?_
 ·constructor
  ·rintro rfl s y hs hy;obtain rfl:s=0:=by omega
   rw[hx0] at hy;cases hy;exact hp0
  ·intro h;rcases Nat.eq_zero_or_pos k with h0|h0
   ·exact h0
   ·obtain⟨y,hy⟩:=zi l 0 (by omega);exact absurd ⟨y,hy,h 0 y (by omega) hy⟩ (h1 0 h0)
 rintro m g0 vs i1 _ hi1 ⟨q,j,cs,rfl,hqj,hj,hcs,hrow,hq,rfl,hle,rfl⟩;by_cases hlt:j<l.length
 ·obtain⟨x,hx⟩:=zi l j hlt;have q1:cs[0+((j:Nat):Int).toNat*1]?=some (.int .i64 x):=by rw[show(0+((j:Nat):Int).toNat*1)=j by omega,hrow j (E9q _) hlt,C1e,hx];rfl
  repeat' (first|refine zp rfl ?_|refine zn ?_|refine A2 rfl ?_|refine zs [5,7] rfl ?_|refine zt rfl rfl (by omega) rfl ?_|refine zx rfl rfl rfl (by omega) rfl ?_|refine D4 (B2 A1 rfl (Has.own 0 rfl) rfl q1) rfl ?_)
  refine zr 8 ?_;iterate 2 refine zp rfl ?_
  refine T6 (hf x _ _ (E9g hx) hle) rfl rfl hg rfl ?_;rintro _ i2 L2 hi2 ⟨⟨bb,rfl,hb⟩,hLL⟩;subst hLL;refine zp rfl ?_;refine zn ?_;have hcap:j<c:=by omega
  cases bb
  ·repeat' (first|refine zn ?_|refine A2 rfl ?_)
   refine zr 9 ?_;iterate 3 refine zp rfl ?_
   refine zx rfl rfl rfl (by omega) rfl ?_;refine H7 (H1 (k:=0) A1 rfl rfl rfl rfl rfl (by show 0+((q:Nat):Int).toNat*1<cs.length;omega)) rfl ?_;rintro _ i3 L3 hi3 ⟨rfl,rfl⟩;refine zn ?_;repeat' (first|refine zp rfl ?_|refine zn ?_|refine A3 ?_|refine zd rfl rfl (by omega) rfl ?_)
   refine⟨l.length-(j+1),by omega,q+1,j+1,_,rfl,by omega,hlt,by rw[List.length_set];exact hcs,fun s h1 h2=>?_,?_,rfl,hle.trans hi2,rfl⟩
   ·rw[F0q (by show 0+((q:Nat):Int).toNat*1≠s;omega)];exact hrow s (by omega) h2
   ·constructor
    ·exact fun h=>absurd h (by omega)
    ·intro h;exact Bool.noConfusion (hb.2 (h j x (by omega) hx))
  ·repeat' (first|refine zp rfl ?_|refine zn ?_|refine A0 rfl ?_|refine A3 ?_|refine zd rfl rfl (by omega) rfl ?_)
   refine⟨l.length-(j+1),by omega,q,j+1,cs,rfl,by omega,hlt,hcs,fun s h1 h2=>hrow s (by omega) h2,?_,rfl,hle.trans hi2,rfl⟩;rw[hq];constructor
   ·intro h s y hs hy;rcases F0m.1 hs with h3|rfl
    ·exact h s y h3 hy
    ·rw[hx] at hy;cases hy;exact hb.1 rfl
   ·exact fun h s y hs hy=>h s y (by omega) hy
 ·obtain rfl:j=l.length:=by omega
  repeat' (first|refine zp rfl ?_|refine zn ?_|refine A0 rfl ?_|refine zr 5 ?_|refine zf rfl rfl (by omega) rfl ?_)
  refine zr 11 ?_;iterate 2 refine zp rfl ?_
  refine A6 (D3y A1 rfl rfl rfl (by omega)) rfl ?_;refine H7 (D4b (L0:=L0) (cs:=cs) (z:=.int .i64 0) A1 rfl ⟨_,rfl,rfl⟩ ⟨_,rfl,rfl,rfl⟩ (by rw[hcs];show(if c=((q:Nat):Int).toNat then 0 else 0+((q:Nat):Int).toNat*1)+(l.length-((q:Nat):Int).toNat)≤c;split<;>omega)) rfl ?_;rintro _ i3 _ hi3 ⟨rfl,cs',rfl⟩;refine zn ?_;repeat' (first|refine zp rfl ?_|refine zn ?_|refine A3 ?_|refine A6 (S2 A1 rfl rfl rfl (.inr ⟨_,_,rfl⟩) (by omega)) rfl ?_)
  refine⟨[_],⟨_,_,_,rfl,?_⟩,rfl⟩;rw[show((q:Nat):Int).toNat=q by omega,hq];constructor
  ·intro h y hy;obtain⟨s,hs⟩:=F0j.1 hy;exact h s y (E9e.1 hs).1 hs
  ·exact fun h s y _ hy=>h y (E9g hy)
def KE(rs:ByteArray→List Int):List (ByteArray×Value×Nat)→SH→Prop
 |[],O=>O=[]
 |e::es,O=>∃(O1 O2:SH),J2 3 e.2.1 1 (rs e.1).length (I3 (rs e.1)) O1∧(∀e'∈es,e'.1≠e.1)∧KE rs es O2∧O=O1++O2
theorem KE.congr{rs rs':ByteArray→List Int}:∀{es:List (ByteArray×Value×Nat)}{O:SH},KE rs es O→(∀e∈es,rs e.1=rs' e.1)→KE rs' es O
 |[],_,h,_=>h
 |e::es,_,⟨O1,O2,h1,h2,h3,h4⟩,hc=>⟨O1,O2,by rw[←hc e (by simp)];exact h1,h2,h3.congr (fun e' he'=>hc e' (by simp[he'])),h4⟩
def B5w(rs:ByteArray→List Int)(a:ByteArray)(x:Int):ByteArray→List Int:=fun b=>if b=a then rs a++[x] else rs b
theorem A1x(rs:ByteArray→List Int)(a:ByteArray)(x:Int):B5w rs a x a=rs a++[x]:=if_pos rfl
theorem A0c(rs:ByteArray→List Int){a b:ByteArray}(x:Int)(h:b≠a):B5w rs a x b=rs b:=if_neg h
theorem C0y{a:ByteArray}{v:Value}{c:Nat}:∀{es:List (ByteArray×Value×Nat)}{e:ByteArray×Value×Nat},e∈Z4 a v c es→e.1=a∨∃e'∈es,e'.1=e.1
 |[],e,h=>by simp[Z4] at h;subst h;exact .inl rfl
 |e0::es,e,h=>by
  simp only[Z4] at h;split at h
  ·rcases F0b.1 h with rfl|h
   ·exact .inr ⟨e0,by simp,rfl⟩
   ·exact .inr ⟨e,by simp[h],rfl⟩
  ·rcases F0b.1 h with rfl|h
   ·exact .inr ⟨e,by simp,rfl⟩
   ·rcases C0y h with h|⟨e',h1,h2⟩
    ·exact .inl h
    ·exact .inr ⟨e',by simp[h1],h2⟩
theorem KE.take{rs:ByteArray→List Int}{a:ByteArray}:∀{es:List (ByteArray×Value×Nat)}{O:SH},KE rs es O→(Q3 a es=none→rs a=[])→
 ∃O1 O2:SH,J2 3 ((Q3 a es).getD (.slice none 0 0)) 1 (rs a).length (I3 (rs a)) O1∧O.Perm (O1++O2)∧∀(v':Value)(x:Int)(O1':SH)(c:Nat),J2 3 v' 1 (rs a++[x]).length (I3 (rs a++[x])) O1'→∃O',KE (B5w rs a x) (Z4 a v' c es) O'∧O'.Perm (O1'++O2)
 |[],O,h,h0=>by
  have e:O=[]:=h;subst e;have e2:=h0 rfl;rw[e2];refine⟨[],[],J2.nil 3 1,List.Perm.refl _,fun v' x O1' c hv=>⟨O1'++[],⟨O1',[],?_,by simp,rfl,rfl⟩,List.Perm.refl _⟩⟩;show J2 3 v' 1 (B5w rs a x a).length (I3 (B5w rs a x a)) O1';rw[A1x,e2];exact hv
 |e::es,O,⟨Oh,Ot,h1,h2,h3,h4⟩,h0=>by
  subst h4;by_cases he:a=e.1
  ·subst he;have eg:Q3 e.1 (e::es)=some e.2.1:=by simp[Q3]
   rw[eg];refine⟨Oh,Ot,h1,List.Perm.refl _,fun v' x O1' c hv=>⟨O1'++Ot,?_,List.Perm.refl _⟩⟩;rw[show Z4 e.1 v' c (e::es)=(e.1,v',e.2.2)::es by simp[Z4]];exact⟨O1',Ot,by show J2 3 v' 1 (B5w rs e.1 x e.1).length (I3 (B5w rs e.1 x e.1)) O1';rw[A1x];exact hv,h2,h3.congr (fun e' he'=>(A0c rs x (h2 e' he')).symm),rfl⟩
  ·have eg:Q3 a (e::es)=Q3 a es:=by simp[Q3,he]
   rw[eg] at h0⊢;obtain⟨O1,O2,g1,g2,g3⟩:=h3.take h0;refine⟨O1,Oh++O2,g1,?_,fun v' x O1' c hv=>?_⟩
   ·exact(List.Perm.append_left Oh g2).trans (E9x Oh O1 O2)
   ·obtain⟨O',k1,k2⟩:=g3 v' x O1' c hv;refine⟨Oh++O',?_,(List.Perm.append_left Oh k2).trans (E9x Oh O1' O2)⟩;rw[show Z4 a v' c (e::es)=e::Z4 a v' c es by simp[Z4,he]];refine⟨Oh,O',?_,?_,k1,rfl⟩
    ·rw[A0c rs x (fun e=>he e.symm)];exact h1
    ·intro e' he';rcases C0y he' with h|⟨e2,m1,m2⟩
     ·rw[h];exact he
     ·rw[←m2];exact h2 e2 m1
theorem A9x.plain{ao:Option Addr}{n c:Nat}(h:A9x (.slice ao n c)):B6c ao n c:=by
 obtain⟨_,_,_,e,h1,h2⟩:=h;cases e;exact⟨h1,h2.elim .inl fun⟨b,hb⟩=>.inr ⟨b,0,hb⟩⟩
theorem KE.freeze{rs:ByteArray→List Int}:∀{es:List (ByteArray×Value×Nat)}{O L:SH}{i:Imm}{w:World},KE rs es O→St i (O++L) w→
 ∃i',i.le i'∧St i' L w∧∀a v,Q3 a es=some v→∃ao c,v=.slice ao (rs a).length c∧Sl i' v 1 (rs a).length (I3 (rs a))∧B6c ao (rs a).length c
 |[],O,L,i,w,h,hw=>by
  have e:O=[]:=h;subst e;exact⟨i,Imm.le.refl i,hw,fun a v h=>by simp[Q3] at h⟩
 |e::es,O,L,i,w,⟨Oh,Ot,h1,h2,h3,h4⟩,hw=>by
  subst h4;rw[F0p] at hw;have hc:=R3 h1;obtain⟨i1,g1,g2,g3⟩:=h1.freeze hw;obtain⟨i2,k1,k2,k3⟩:=h3.freeze g2;refine⟨i2,g1.trans k1,k2,fun a v hv=>?_⟩;simp only[Q3] at hv;split at hv
  ·rename_i he;subst he;cases hv;obtain⟨ao,c,e1,_⟩:=id g3;exact⟨ao,c,e1,g3.le k1,by rw[e1] at hc;exact hc.plain⟩
  ·exact k3 a v hv
theorem keyS:KeyT E9z E9c 9:=E8d A1 ⟨_,rfl,rfl⟩
def NewI(i:Imm)(qs:List Rul)(k kl bp bm:Nat)(rv:Value)(L L9:SH):Prop:=
 ∃(af ag al:Option Addr)(cf cg cl c nl:Nat)(gl:List Int)(hs xs:List Value)(es:List (ByteArray×Value×Nat))(rs:ByteArray→List Int)(Of Og Ol Ok:SH),
  J2 50 (.slice af k cf) 1 k hs Of∧hs.length=k∧(∀(j:Nat)(r:Rul),j<k→qs[j]?=some r→∃ao cap,hs[j]?=some (.slice ao (E3 r.terms).length cap)∧Sl i (.slice ao (E3 r.terms).length cap) 4 (E3 r.terms).length (terms (E3 r.terms)))∧
  J2 3 (.slice ag gl.length cg) 1 gl.length (I3 gl) Og∧J2 3 (.slice al nl cl) 1 nl xs Ol∧nl≤kl∧KE rs es Ok∧(∀a,Q3 a es=none→rs a=[])∧gl.length≤k∧(∀a,(rs a).length≤k)∧
  (∀x∈gl,∃j:Nat,j<k∧x=j)∧(∀a,∀x∈rs a,∃j:Nat,j<k∧x=j)∧(∀(j:Nat)(r:Rul),j<k→qs[j]?=some r→(j:Int)∈gl∨∃a,(j:Int)∈rs a∧keyP (E3 r.terms) a)∧
  L9=(bp,.cells [rv,.slice af k cf,.map (some bm),.slice ag gl.length cg,.slice al nl cl].toArray 120 (0,0))::(bm,.map (P0 E9z es) c)::(Ok++(Of++(Og++(Ol++L))))
def E3b(i:Imm)(v:Value)(qs:List Rul):Prop:=
 ∃(bp bm c cg:Nat)(rv fv lv:Value)(ag:Option Addr)(gl:List Int)(hs:List Value)(es:List (ByteArray×Value×Nat))(rs:ByteArray→List Int),
  v=.pointer (some ⟨bp,0,none⟩)∧i.blk bp=some (.cells [rv,fv,.map (some bm),.slice ag gl.length cg,lv].toArray 120 (0,0))∧i.blk bm=some (.map (P0 E9z es) c)∧
  Sl i fv 1 qs.length hs∧(∀(j:Nat)(r:Rul),qs[j]?=some r→∃ao cap,hs[j]?=some (.slice ao (E3 r.terms).length cap)∧Sl i (.slice ao (E3 r.terms).length cap) 4 (E3 r.terms).length (terms (E3 r.terms)))∧
  A3y i ag cg gl∧(∀a v,Q3 a es=some v→∃ao c,v=.slice ao (rs a).length c∧A3y i ao c (rs a))∧(∀a,Q3 a es=none→rs a=[])∧
  (∀x∈gl,∃j:Nat,j<qs.length∧x=j)∧(∀a,∀x∈rs a,∃j:Nat,j<qs.length∧x=j)∧(∀(j:Nat)(r:Rul),qs[j]?=some r→(j:Int)∈gl∨∃a,(j:Int)∈rs a∧keyP (E3 r.terms) a)
theorem E3b.le{i i':Imm}{v:Value}{qs:List Rul}(h:E3b i v qs)(hi:i.le i'):E3b i' v qs:=by
 obtain⟨bp,bm,c,cg,rv,fv,lv,ag,gl,hs,es,rs,h1,h2,h3,h4,h5,h6,h7,h8⟩:=h;exact⟨bp,bm,c,cg,rv,fv,lv,ag,gl,hs,es,rs,h1,hi.blk _ _ h2,hi.blk _ _ h3,h4.le hi,fun j r hr=>let⟨ao,cap,g1,g2⟩:=h5 j r hr;⟨ao,cap,g1,g2.le hi⟩,h6.le hi,fun a v hv=>let⟨ao,c,g1,g2⟩:=h7 a v hv;⟨ao,c,g1,g2.le hi⟩,h8⟩
theorem E5c{rs:ByteArray→List Int}{a:ByteArray}{k:Nat}(h:∀a,∀x∈rs a,∃j:Nat,j<k∧x=j):∀b,∀x∈B5w rs a (k:Int) b,∃j:Nat,j<k+1∧x=j:=fun b x hx=>by
 by_cases e:b=a
 ·subst e;rw[A1x] at hx;rcases E9r.1 hx with hx|hx
  ·obtain⟨j,h1,h2⟩:=h b x hx;exact⟨j,by omega,h2⟩
  ·exact⟨k,by omega,by simpa using hx⟩
 ·rw[A0c rs _ e] at hx;obtain⟨j,h1,h2⟩:=h b x hx;exact⟨j,by omega,h2⟩
theorem E6w{rs:ByteArray→List Int}{a:ByteArray}{x y:Int}{b:ByteArray}(h:y∈rs b):y∈B5w rs a x b:=by
 by_cases e:b=a
 ·subst e;rw[A1x];exact F1p _ h
 ·rw[A0c rs _ e];exact h
theorem E6x{rs:ByteArray→List Int}{a:ByteArray}{x:Int}{k:Nat}(h:∀a,(rs a).length≤k)(b:ByteArray):(B5w rs a x b).length≤k+1:=by
 have:=h b
 by_cases e:b=a
 ·subst e;rw[A1x,E9h];simp;omega
 ·rw[A0c rs _ e];omega
theorem D0k{i i':Imm}{qs:List Rul}{k:Nat}{hs:List Value}{r:Rul}{ao:Option Addr}{cap:Nat}(hi:i.le i')(hl:hs.length=k)(hr:qs[k]?=some r)
 (h:∀(j:Nat)(r:Rul),j<k→qs[j]?=some r→∃ao cap,hs[j]?=some (.slice ao (E3 r.terms).length cap)∧Sl i (.slice ao (E3 r.terms).length cap) 4 (E3 r.terms).length (terms (E3 r.terms)))
 (h2:Sl i' (.slice ao (E3 r.terms).length cap) 4 (E3 r.terms).length (terms (E3 r.terms))):
 ∀(j:Nat)(r':Rul),j<k+1→qs[j]?=some r'→∃ao' cap',(hs++[.slice ao (E3 r.terms).length cap])[j]?=some (.slice ao' (E3 r'.terms).length cap')∧Sl i' (.slice ao' (E3 r'.terms).length cap') 4 (E3 r'.terms).length (terms (E3 r'.terms)):=by
 intro j r' hj hr';rcases F0m.1 hj with hj|rfl
 ·obtain⟨a,c,h3,h4⟩:=h j r' hj hr';exact⟨a,c,by rw[E9t (by omega)];exact h3,h4.le hi⟩
 ·rw[hr] at hr';cases hr';exact⟨ao,cap,by rw[F0r (by omega),hl,Nat.sub_self];rfl,h2⟩
theorem New_t(v:Value)(qs:List Rul)(cs:List Value)(i:Imm)(L:SH)(hs:Sl i v 3 qs.length cs)(ha:RVc i cs qs)(hn:qs.length≤2000):
 E6 E9c 41 [v] i L fun r i' L'=>E3b i' r qs∧L'=L:=by
 refine E6.state (K:=fun r i' L'=>∃(bp bm:Nat)(rv:Value),r=.pointer (some ⟨bp,0,none⟩)∧NewI i' qs qs.length qs.length bp bm rv L L') ?_ ?_;rotate_left
 ·rintro r i' L' w _ hst ⟨bp,bm,rv,rfl,af,ag,al,cf,cg,cl,c,nl,gl,hs,xs,es,rs,Of,Og,Ol,Ok,hf,hl,hfr,hgo,hlo,hnl,hke,hno,hgl,hrl,hgj,hrj,hall,rfl⟩;have hcg:=R3 hgo;obtain⟨k1,h1⟩:=hst.freeze;obtain⟨k2,h2⟩:=h1.freeze;obtain⟨i3,k3,h3,hrows⟩:=hke.freeze h2;obtain⟨i4,k4,h4,sf⟩:=hf.freeze h3;obtain⟨i5,k5,h5,sg⟩:=hgo.freeze h4;obtain⟨i6,k6,h6,_⟩:=hlo.freeze h5;have l45:=k5.trans k6;have l36:=k4.trans l45;have l26:=k3.trans l36;have l16:=k2.trans l26;refine⟨i6,L,k1.trans l16,h6,⟨bp,bm,c,cg,rv,.slice af qs.length cf,.slice al nl cl,ag,gl,hs,es,rs,rfl,l16.blk _ _ (by simp[Imm.add]),l26.blk _ _ (by simp[Imm.add]),sf.le l45,fun j r hr=>?_,⟨sg.le k6,hcg.plain,by omega⟩,fun a v hv=>?_,hno,hgj,hrj,fun j r hr=>hall j r (E9e.1 hr).1 hr⟩,rfl⟩
  ·obtain⟨ao,cap,g1,g2⟩:=hfr j r (E9e.1 hr).1 hr;exact⟨ao,cap,g1,g2.le (k1.trans l16)⟩
  ·obtain⟨ao,c2,g1,g2,g3⟩:=hrows a v hv;exact⟨ao,c2,g1,by rw[g1] at g2;exact g2.le l36,g3,by have:=hrl a;omega⟩
 obtain⟨ao,cap,rfl,_⟩:=id hs;refine A5 Tryz.func41 rfl rfl (by simp) rfl ?_;repeat' (first|refine zn ?_|(refine zr 0 ?_;refine zp rfl ?_;refine zn ?_))
 refine zr 1 ?_;refine zp rfl ?_;refine A7 (D3r _ qs cs _ _ hs ha hn) rfl (by kernel_rfl) rfl ?_;rintro w i1 L hi1 ⟨⟨ds,hds,hdr⟩,hLL⟩;subst hLL;obtain⟨aw,cw,rfl,_⟩:=id hds;refine K5 rfl (A5t E9z (fun bm=>?_));refine zp rfl ?_;refine E4 rfl rfl (fun bp=>?_);refine zp rfl ?_;refine zn ?_;repeat' (first|refine zp rfl ?_|refine zn ?_|refine zr 2 ?_|refine zo 0 rfl rfl rfl rfl ?_)
 refine B1 [3,17,18,19] (fun m vs i' L'=>∃k:Nat,m=qs.length-k∧k≤qs.length∧vs=[.pointer (some ⟨bp,0,none⟩),.slice aw qs.length cw,.int .i64 (qs.length:Int),.int .i64 (k:Int)]∧i1.le i'∧NewI i' qs k k bp bm (.slice aw qs.length cw) L L') _ ⟨0,rfl,E9k _,rfl,Imm.le.refl _,none,none,none,0,0,0,0,0,[],[],[],[],fun _=>[],[],[],[],[],J2.nil 50 1,rfl,fun j r h=>absurd h (by omega),J2.nil 3 1,J2.nil 3 1,E9q _,rfl,fun _ _=>rfl,E9q _,fun _=>E9q _,fun x h=>absurd h (by simp),fun a x h=>absurd h (by simp),fun j r h=>absurd h (by omega),rfl⟩ ?_;rintro m g vs i2 L9 hi2 ⟨k,rfl,hk,rfl,hle,af,ag,al,cf,cg,cl,c,nl,gl,hf,xs,es,rs,Of,Og,Ol,Ok,hfo,hfl,hfr,hgo,hlo,hnl,hke,hno,hgl,hrl,hgj,hrj,hall,rfl⟩;by_cases hlt:k<qs.length
 ·obtain⟨r,hr⟩:=zi qs k hlt;obtain⟨b1,o1,c1,t1,z1,p1,ta1,tc1,e1,g1,q1,hs1,hn1⟩:=RVc.at (hds.le hle) (hdr.le hle) hr;cases e1;obtain⟨_,_,_,_,_,hsm1,hfs1⟩:=hdr.2 k r hr;have hfn:=A0b (ts:=r.terms);repeat' (first|refine zn ?_|refine A2 rfl ?_|refine zr 3 ?_|refine zt rfl rfl (by omega) rfl ?_)
  refine zr 4 ?_;refine zp rfl ?_;refine zx rfl rfl rfl (by omega) rfl ?_;refine D4 (D9 (l:=[.string r.file,.int .i64 r.line,.slice ta1 r.terms.length tc1]) A1 rfl (Has.imm g1) rfl rfl rfl q1) rfl ?_;refine C1 A1 rfl rfl (fun b5=>?_);refine zp rfl ?_;refine zw 0 rfl rfl rfl rfl ?_;refine zn ?_;refine zn ?_;refine A2b (fun i3 hi3 g5=>?_);repeat' (first|refine zp rfl ?_|refine zn ?_|refine zr 5 ?_|refine D4 (B0 A1 rfl (Has.imm g5) rfl) rfl ?_|(refine A7 (E0u r.file r.line _ r.terms _ _ (hs1.le hi3) hn1) rfl (by kernel_rfl) rfl ?_;rintro w6 i4 L4 hi4 ⟨hw6,hLL⟩;subst hLL;obtain⟨a6,c6,rfl,_⟩:=id hw6))
  refine zr 6 ?_;iterate 4 refine zp rfl ?_
  refine zo 0 rfl rfl rfl rfl ?_;refine zp rfl ?_;refine A8 A1 1 rfl rfl rfl (fun bz i5 hi5 hbs=>?_);refine H7 (D8 (_::_::Ok) A1 (sz:=1) (bytes:=24) (m:=1) rfl rfl hfo (hbs.rd _) ⟨_,rfl,rfl⟩ ⟨_,rfl,rfl,rfl⟩ (by omega) (F4 rfl) (by omega) (by omega)) rfl ?_;rintro _ i6 _ hi6 ⟨Of',⟨af',cf',rfl,hfo'⟩,rfl⟩;iterate 2 refine zp rfl ?_
  refine zw 0 rfl rfl rfl rfl ?_;refine zn ?_;refine zn ?_;have l46:=hi5.trans hi6;have l26:=hi3.trans (hi4.trans l46);have hfr':=D0k l26 hfl hr hfr (hw6.le l46);have hfl':(hf++[F0h a6 (E3 r.terms).length c6]).length=k+1:=by simp[hfl]
  refine K9 [3,4,5,17,18,19] (fun vs i' L'=>vs=[.pointer (some ⟨bp,0,none⟩),.int .i64 (k:Int),.pointer (some ⟨b5,0,none⟩),.slice (some ⟨b1,o1,none⟩) qs.length cw,.int .i64 (qs.length:Int),.int .i64 (k:Int)]∧NewI i' qs (k+1) k bp bm (.slice (some ⟨b1,o1,none⟩) qs.length cw) L L') ?_ ?_
  ·repeat' (first|refine zn ?_|fail)
   refine zr 7 ?_;refine zp rfl ?_;refine A7 (Key74_v _ (E3 r.terms) _ _ (hw6.le l46) (by omega) (fun t ht=>(hsm1 t (A2n t ht)).2)) rfl (by kernel_rfl) rfl ?_;rintro _ i7 L7 hi7 ⟨⟨s,b,rfl,hb⟩,hLL⟩;subst hLL;iterate 5 refine zp rfl ?_
   refine zn ?_;cases b
   ·repeat' (first|refine zn ?_|refine A0 rfl ?_|(refine zr 8 ?_;refine zp rfl ?_;refine zn ?_))
    refine zr 10 ?_;iterate 4 refine zp rfl ?_
    refine zo 0 rfl rfl rfl rfl ?_;refine zp rfl ?_;refine A8 A1 1 rfl rfl rfl (fun bz i8 hi8 hbs=>?_);refine J3 (L':=(bp,E9n [.slice (some ⟨b1,o1,none⟩) qs.length cw,.slice af' (k+1) cf',.map (some bm),.slice ag gl.length cg,.slice al nl cl].toArray 120 (0,0))::(bm,.map (P0 E9z es) c)::((Ok++Of')++(Og++(Ol++L)))) (List.Perm.of_eq (by simp)) ?_;refine H7 (D8 ((bp,E9n [.slice (some ⟨b1,o1,none⟩) qs.length cw,.slice af' (k+1) cf',.map (some bm),.slice ag gl.length cg,.slice al nl cl].toArray 120 (0,0))::(bm,.map (P0 E9z es) c)::(Ok++Of')) A1 (sz:=1) (bytes:=8) (m:=1) rfl rfl hgo (hbs.rd _) ⟨_,rfl,rfl⟩ ⟨_,rfl,rfl,rfl⟩ (by omega) (F4 rfl) (by omega) (by omega)) rfl ?_;rintro _ i9 _ hi9 ⟨Og',⟨ag',cg',rfl,hgo'⟩,rfl⟩;iterate 2 refine zp rfl ?_
    refine zw 0 rfl rfl rfl rfl ?_;refine zn ?_;repeat' (first|refine zn ?_|fail)
    have l69:=hi7.trans (hi8.trans hi9);have e1:(gl++[(k:Int)]).length=gl.length+1:=by simp
    refine⟨rfl,af',ag',al,cf',cg',cl,c,nl,gl++[(k:Int)],_,xs,es,rs,Of',Og',Ol,Ok,hfo',hfl',fun j r' h1 h2=>let⟨a,c,h3,h4⟩:=hfr' j r' h1 h2;⟨a,c,h3,h4.le l69⟩,by rw[e1,T8];exact hgo',hlo,hnl,hke,hno,by omega,fun a=>by have:=hrl a;omega,?_,fun a x hx=>let⟨j,h1,h2⟩:=hrj a x hx;⟨j,by omega,h2⟩,?_,by rw[e1];simp⟩
    ·intro x hx;rcases E9r.1 hx with hx|hx
     ·obtain⟨j,h1,h2⟩:=hgj x hx;exact⟨j,by omega,h2⟩
     ·exact⟨k,by omega,by simpa using hx⟩
    ·intro j r' h1 h2;rcases F0m.1 h1 with h1|rfl
     ·exact(hall j r' h1 h2).imp (F1p _) id
     ·exact .inl (by simp)
   ·repeat' (first|refine zn ?_|refine A2 rfl ?_|(refine zr 8 ?_;refine zp rfl ?_;refine zn ?_))
    obtain⟨O1,O2,hO1,hpm,hput⟩:=hke.take (a:=s) (hno s);obtain⟨a0,c0,e0⟩:=hO1.shape;rw[e0] at hO1;refine A1r (L':=(bp,E9n [.slice (some ⟨b1,o1,none⟩) qs.length cw,.slice af' (k+1) cf',.map (some bm),.slice ag gl.length cg,.slice al nl cl].toArray 120 (0,0))::(bm,.map (P0 E9z es) c)::(O1++(O2++(Of'++(Og++(Ol++L)))))) (((hpm.append_right _).trans (List.Perm.of_eq (by simp))).cons _ |>.cons _) ?_;refine H8 J9 [0,1,2,3,4,5,6,7,8,9,10,11,12,13] [14] [13] (fun L'=>∃X:SH,L'=(bp,E9n [.slice (some ⟨b1,o1,none⟩) qs.length cw,.slice af' (k+1) cf',.map (some bm),.slice ag gl.length cg,.slice al nl cl].toArray 120 (0,0))::(bm,.map (P0 E9z es) c)::X) (stE fun L'=>L'=(bp,E9n [.slice (some ⟨b1,o1,none⟩) qs.length cw,.slice af' (k+1) cf',.map (some bm),.slice ag gl.length cg,.slice al nl cl].toArray 120 (0,0))::(bm,.map (P0 E9z es) c)::(O1++(O2++(Of'++(Og++(Ol++L)))))) (by kernel_rfl) (by decide) rfl ⟨_,rfl⟩ (G7 _) rfl ?_;iterate 3 refine zg rfl rfl rfl ?_
    refine D7 (fun i' hi L' hL=>by obtain⟨X,rfl⟩:=hL;exact B0 A1 rfl (Has.own 0 rfl) rfl) rfl rfl rfl rfl rfl rfl ?_;iterate 4 refine zg rfl rfl rfl ?_
    refine D7 (fun i' hi L' hL=>by obtain⟨X,rfl⟩:=hL;exact B0 A1 rfl (Has.own 0 rfl) rfl) rfl rfl rfl rfl rfl rfl ?_;refine zg rfl rfl rfl ?_;refine D7 (fun i' hi L' hL=>by obtain⟨X,rfl⟩:=hL;exact C9x (kv:=E9z) (a:=s) A1 rfl rfl ⟨_,rfl,rfl⟩ keyS Tryz.zeroValue22 (Has.own 1 rfl) e0) rfl rfl rfl rfl rfl rfl ?_;refine zg rfl rfl rfl ?_;refine S8 A1 1 rfl rfl rfl rfl rfl rfl ?_;refine G0 (fun _ _=>True) ⟨[55],fun _ vs L'=>∃(a9:Option Addr)(c9:Nat)(O9:SH),vs=[.slice a9 ((rs s).length+1) c9]∧J2 3 (.slice a9 ((rs s).length+1) c9) 1 ((rs s).length+1) (I3 (rs s)++[.int .i64 (k:Int)]) O9∧L'=(bp,E9n [.slice (some ⟨b1,o1,none⟩) qs.length cw,.slice af' (k+1) cf',.map (some bm),.slice ag gl.length cg,.slice al nl cl].toArray 120 (0,0))::(bm,.map (P0 E9z es) c)::(O9++(O2++(Of'++(Og++(Ol++L)))))⟩ (fun _ _ _ _ _=>trivial) (fun _ _ _ _ _ h=>h) rfl rfl rfl rfl rfl rfl (fun i' hi L' _ vs _ hm=>?_) ?_
    ·rintro v ⟨b,rfl,hbs⟩-;refine⟨rfl,?_⟩;have hm:L'=_:=hm;subst hm;have hrs:=hrl s;refine P3.mono (D8 [(bp,E9n [.slice (some ⟨b1,o1,none⟩) qs.length cw,.slice af' (k+1) cf',.map (some bm),.slice ag gl.length cg,.slice al nl cl].toArray 120 (0,0)),(bm,.map (P0 E9z es) c)] A1 (sz:=1) (bytes:=8) (m:=1) rfl rfl hO1 (hbs.rd _) ⟨_,rfl,rfl⟩ ⟨_,rfl,rfl,rfl⟩ (by omega) (F4 rfl) (by omega) (by omega)) ?_;rintro v' i3 L3 _ ⟨O9,⟨a9,c9,rfl,h1⟩,rfl⟩;exact⟨⟨_,rfl⟩,trivial,a9,c9,O9,rfl,h1,rfl⟩
    refine I8 rfl rfl (fun i8 L2 vs hi8 _ _ hm=>?_);obtain⟨a9,c9,O9,rfl,h1,rfl⟩:=hm;rintro w-w2-hw;have hwv:w=.slice a9 ((rs s).length+1) c9:=hw 0 _ _ rfl rfl;subst hwv;refine K5 rfl (A7k (kv:=E9z) (a:=s) (k:=1) A1 rfl rfl rfl ⟨_,rfl,rfl⟩ keyS rfl rfl ?_);have e1:(rs s++[(k:Int)]).length=(rs s).length+1:=by simp
    obtain⟨Ok',hke',hpm'⟩:=hput (.slice a9 ((rs s).length+1) c9) (k:Int) O9 c (by rw[e1,T8];exact h1)
    have hp2:(O9++(O2++(Of'++(Og++(Ol++L))))).Perm (Ok'++(Of'++(Og++(Ol++L)))):=by
     rw[←F0p];exact hpm'.symm.append_right _
    refine J3 (L':=(bp,E9n [.slice (some ⟨b1,o1,none⟩) qs.length cw,.slice af' (k+1) cf',.map (some bm),.slice ag gl.length cg,.slice al nl cl].toArray 120 (0,0))::(bm,.map (P0 E9z (Z4 s (.slice a9 ((rs s).length+1) c9) c es)) (C2k s c es))::(Ok'++(Of'++(Og++(Ol++L))))) ((hp2.cons _).cons _) ?_;refine zn ?_;repeat' (first|refine zn ?_|fail)
    have l68:=hi7.trans hi8;refine⟨rfl,af',ag,al,cf',cg,cl,_,nl,gl,_,xs,_,B5w rs s (k:Int),Of',Og,Ol,Ok',hfo',hfl',fun j r' h1 h2=>let⟨a,c,h3,h4⟩:=hfr' j r' h1 h2;⟨a,c,h3,h4.le l68⟩,hgo,hlo,hnl,hke',fun a h=>?_,by omega,E6x hrl,fun x hx=>let⟨j,h1,h2⟩:=hgj x hx;⟨j,by omega,h2⟩,E5c hrj,?_,rfl⟩
    ·rw[C8y] at h;split at h
     ·cases h
     ·rename_i hne;rw[A0c rs _ hne];exact hno a h
    ·intro j r' h1 h2;rcases F0m.1 h1 with h1|rfl
     ·exact(hall j r' h1 h2).imp id fun⟨a,h3,h4⟩=>⟨a,E6w h3,h4⟩
     ·rw[hr] at h2;cases h2;exact .inr ⟨s,by rw[A1x];simp,hb rfl⟩
  ·rintro g vs i8 L8 hi8 ⟨rfl,af,ag,al,cf,cg,cl,c,nl,gl,hf,xs,es,rs,Of,Og,Ol,Ok,hfo,hfl,hfr,hgo,hlo,hnl,hke,hno,hgl,hrl,hgj,hrj,hall,rfl⟩;replace g5:=(hi4.trans (l46.trans hi8)).blk _ _ g5;have hs8:=hs1.le (hi3.trans (hi4.trans (l46.trans hi8)));repeat' (first|refine zn ?_|fail)
   refine zr 11 ?_;refine zp rfl ?_;refine zm g5 rfl rfl rfl rfl ?_;refine Q7 (A0e _ r.terms.length (terms r.terms) 75 [] (fun k=>∃t,r.terms[k]?=some t∧t.key=23) _ _ hs8 (by omega) (by kernel_rfl) (fun k i' L' hk _=>?_)) rfl (by kernel_rfl) rfl (fun i9 hi9 hlb=>?_) (fun i9 hi9 hlb=>?_)
   ·obtain⟨t,ht⟩:=zi r.terms k hk;rw[B2b ht]
    refine(D9b t i' L').mono fun _ _ _ _ ⟨h1,h2⟩=>⟨h1.iff ?_,h2⟩
    constructor
    ·exact fun h=>⟨t,ht,h⟩
    ·rintro⟨u,hu,h⟩;rw[ht] at hu;cases hu;exact h
   ·refine zn ?_;repeat' (first|refine zn ?_|refine A2 rfl ?_)
    refine zr 12 ?_;iterate 4 refine zp rfl ?_
    refine zo 0 rfl rfl rfl rfl ?_;refine zp rfl ?_;refine A8 A1 1 rfl rfl rfl (fun bz i10 hi10 hbs=>?_);refine J3 (L':=(bp,E9n [.slice (some ⟨b1,o1,none⟩) qs.length cw,.slice af (k+1) cf,.map (some bm),.slice ag gl.length cg,.slice al nl cl].toArray 120 (0,0))::(bm,.map (P0 E9z es) c)::((Ok++(Of++Og))++(Ol++L))) (List.Perm.of_eq (by simp)) ?_;refine H7 (D8 ((bp,E9n [.slice (some ⟨b1,o1,none⟩) qs.length cw,.slice af (k+1) cf,.map (some bm),.slice ag gl.length cg,.slice al nl cl].toArray 120 (0,0))::(bm,.map (P0 E9z es) c)::(Ok++(Of++Og))) A1 (sz:=1) (bytes:=8) (m:=1) rfl rfl hlo (hbs.rd _) ⟨_,rfl,rfl⟩ ⟨_,rfl,rfl,rfl⟩ (by omega) (F4 rfl) (by omega) (by omega)) rfl ?_;rintro _ i11 _ hi11 ⟨Ol',⟨al',cl',rfl,hlo'⟩,rfl⟩;iterate 2 refine zp rfl ?_
    refine zw 0 rfl rfl rfl rfl ?_;refine zn ?_;repeat' (first|refine zp rfl ?_|refine zn ?_|refine A3 ?_|refine zd rfl rfl (by omega) rfl ?_)
    have l9:=hi9.trans (hi10.trans hi11);exact⟨qs.length-(k+1),by omega,k+1,rfl,hlt,rfl,hle.trans (hi3.trans (hi4.trans (l46.trans (hi8.trans l9)))),af,ag,al',cf,cg,cl',c,nl+1,gl,hf,_,es,rs,Of,Og,Ol',Ok,hfo,hfl,fun j r' h1 h2=>let⟨a,c,h3,h4⟩:=hfr j r' h1 h2;⟨a,c,h3,h4.le l9⟩,hgo,hlo',by omega,hke,hno,hgl,hrl,hgj,hrj,hall,by simp⟩
   ·refine zn ?_;repeat' (first|refine zn ?_|refine A0 rfl ?_|(refine zr 13 ?_;refine zd rfl rfl (by omega) rfl ?_;refine zp rfl ?_;refine zn ?_))
    exact⟨qs.length-(k+1),by omega,k+1,rfl,hlt,rfl,hle.trans (hi3.trans (hi4.trans (l46.trans (hi8.trans hi9)))),af,ag,al,cf,cg,cl,c,nl,gl,hf,xs,es,rs,Of,Og,Ol,Ok,hfo,hfl,fun j r' h1 h2=>let⟨a,c,h3,h4⟩:=hfr j r' h1 h2;⟨a,c,h3,h4.le hi9⟩,hgo,hlo,by omega,hke,hno,hgl,hrl,hgj,hrj,hall,rfl⟩
 ·obtain rfl:k=qs.length:=by omega
  repeat' (first|refine zp rfl ?_|refine zn ?_|refine A0 rfl ?_|refine zs [3,14] rfl ?_|refine zf rfl rfl (by omega) rfl ?_)
  exact⟨bp,bm,_,rfl,af,ag,al,cf,cg,cl,c,nl,gl,hf,xs,es,rs,Of,Og,Ol,Ok,hfo,hfl,hfr,hgo,hlo,hnl,hke,hno,hgl,hrl,hgj,hrj,hall,rfl⟩
def notC(qs:List Rul)(d:Dev)(x:Int):Prop:=∃(j:Nat)(r:Rul),x=j∧qs[j]?=some r∧¬A6t r.terms d
theorem E8p(v:Value)(qs:List Rul)(d:Dev)(b2 b3:Nat)(l:List Value)(j:Nat)(r:Rul)(i:Imm)(L:SH)(hp:E3b i v qs)(hsm:Q6 1024 r.terms)(hn:r.terms.length≤1024)(hj:qs[j]?=some r)(hd:R6 i l d)(g2:i.blk b2=some (.cells [v].toArray 86 (0,0)))(g3:i.blk b3=some (.cells (E9d l) 56 (0,0))):
 E6 E9c 78 [.int .i64 (j:Int),.pointer (some ⟨b2,0,none⟩),.pointer (some ⟨b3,0,none⟩)] i L fun u i' L'=>BV (notC qs d j) u∧L'=L:=by
 obtain⟨bp,bm,c,cg,rv,fv,lv,ag,gl,hs,es,rs,rfl,k1,k2,k3,k4,_⟩:=hp;obtain⟨ao,cap,q0,hfr⟩:=k4 j r hj;have hjl:=(E9e.1 hj).1;obtain⟨_,b1,o1,c1,t1,z1,p1,rfl,g1,q1⟩:=Z7 k3 q0;have hfl:=A0b (ts:=r.terms);refine A5 Tryz.func78 rfl rfl (by simp) rfl ?_;repeat' (first|refine zn ?_|(refine zr 0 ?_;refine zp rfl ?_;refine zn ?_))
 refine zr 1 ?_;refine D4 (B0 A1 rfl (Has.imm g2) rfl) rfl ?_;iterate 2 refine zp rfl ?_
 refine D4 (B0 A1 rfl (Has.imm k1) rfl) rfl ?_;refine zp rfl ?_;refine zx rfl rfl rfl (by omega) rfl ?_;refine zm g1 q1 rfl rfl rfl ?_;refine A6 T9 rfl ?_;refine Q7 (A0e _ (E3 r.terms).length (terms (E3 r.terms)) 79 [.pointer (some ⟨b3,0,none⟩)] (fun k=>∃t,(E3 r.terms)[k]?=some t∧¬S5 t (P6 t d)) _ _ hfr (by omega) (by kernel_rfl) (fun k i' L' hk hle=>?_)) rfl (by kernel_rfl) rfl (fun i9 hi9 hlb=>?_) (fun i9 hi9 hlb=>?_)
 ·obtain⟨t,ht⟩:=zi (E3 r.terms) k hk;have hm:=E9g ht;rw[B2b ht]
  refine(D3f t d b3 l i' L' (A0n t hm) (hsm t (A2n t hm)).2 (hd.le hle) (hle.blk _ _ g3)).mono fun _ _ _ _ ⟨h1,h2⟩=>⟨h1.iff ?_,h2⟩
  constructor
  ·exact fun h=>⟨t,ht,h⟩
  ·rintro⟨u,hu,h⟩;rw[ht] at hu;cases hu;exact h
 ·refine zp rfl ?_;refine zn ?_;repeat' (first|refine zn ?_|fail)
  refine⟨N9 ⟨j,r,rfl,hj,fun h=>?_⟩,rfl⟩;obtain⟨k,_,t,ht,h1⟩:=hlb;exact h1 (h t (E9g ht))
 ·refine zp rfl ?_;refine zn ?_;repeat' (first|refine zn ?_|fail)
  refine⟨BV.no ?_,rfl⟩
  rintro⟨j',r',e,hj',h⟩
  have:j'=j:=by omega
  subst this;rw[hj] at hj';cases hj';refine h fun t ht=>Classical.byContradiction fun h2=>hlb ?_
  obtain⟨k,hk⟩:=F0j.1 ht;exact⟨k,(E9e.1 hk).1,t,hk,h2⟩
theorem E7k{i:Imm}{bm:Nat}{es:List (ByteArray×Value×Nat)}{rs:ByteArray→List Int}(h7:∀a v,Q3 a es=some v→∃ao c,v=.slice ao (rs a).length c∧A3y i ao c (rs a))(h8:∀a,Q3 a es=none→rs a=[])(a:ByteArray):∃ao c,(Q3 a es).getD (.slice none 0 0)=.slice ao (rs a).length c∧A3y i ao c (rs a):=by
 cases h:Q3 a es with
 |some v=>obtain⟨ao,c,rfl,h2⟩:=h7 a v h;exact⟨ao,c,rfl,h2⟩
 |none=>rw[h8 a h];exact⟨none,0,rfl,Sl.nil i 1,⟨E9q _,.inl ⟨rfl,rfl,rfl⟩⟩,by simp⟩
theorem B9n(v:Value)(qs:List Rul)(d:Dev)(l:List Value)(i:Imm)(L:SH)(hp:E3b i v qs)(hq:∀(j:Nat)(r:Rul),qs[j]?=some r→Q6 1024 r.terms∧r.terms.length≤1024)(hd:R6 i l d):
 E6 E9c 42 [v,.agg (E9d l)] i L fun u i' L'=>(∃ao m c,u=.slice ao m c∧(m=0↔∀(j:Nat)(r:Rul),qs[j]?=some r→¬A6t r.terms d))∧L'=L:=by
 have hp0:=hp;obtain⟨bp,bm,c,cg,rv,fv,lv,ag,gl,hs,es,rs,rfl,k1,k2,k3,k4,k5,k6,k7,k8,k9,k10⟩:=hp;obtain⟨da,dc,rfl,hda,hdk⟩:=hd;obtain⟨a0,c0,e0,hrow⟩:=E7k (bm:=bm) k6 k7 d.subsystem;refine A5 Tryz.func42 rfl rfl (by simp) rfl ?_;repeat' (first|refine zn ?_|fail)
 refine zr 0 ?_;refine E4 rfl rfl (fun b2=>?_);refine M3 (fun i2 hi2 g2=>?_);refine E4 rfl rfl (fun b3=>?_);refine M3 (fun i3 hi3 g3=>?_);refine zp rfl ?_;refine zn ?_;replace g2:=hi3.blk _ _ g2;have l3:=hi2.trans hi3;replace hp0:=hp0.le l3;replace k1:=l3.blk _ _ k1;replace k2:=l3.blk _ _ k2;replace k5:=k5.le l3;replace hrow:=hrow.le l3;replace hda:=hda.le l3;repeat' (first|refine zn ?_|fail)
 refine H8 J9 [0,1,2,3,4,5,6,7,8,9,10,11,12,13] [14] [11,13] (fun _=>True) (stE fun L'=>L'=L) (by kernel_rfl) (by decide) rfl trivial (G7 _) rfl ?_;refine D7 (fun i' hi L' _=>B0 A1 rfl (Has.imm (hi.blk _ _ g2)) rfl) rfl rfl rfl rfl rfl rfl ?_;iterate 2 refine zg rfl rfl rfl ?_
 refine D7 (fun i' hi L' _=>B0 A1 rfl (Has.imm (hi.blk _ _ k1)) rfl) rfl rfl rfl rfl rfl rfl ?_;refine zg rfl rfl rfl ?_;refine D7 (fun i' hi L' _=>B2 A1 rfl (Has.imm (hi.blk _ _ g3)) rfl rfl) rfl rfl rfl rfl rfl rfl ?_;refine D7 (fun i' hi L' _=>C9x (kv:=E9z) (a:=d.subsystem) A1 rfl rfl ⟨_,rfl,rfl⟩ keyS Tryz.zeroValue22 (Has.imm (hi.blk _ _ k2)) e0) rfl rfl rfl rfl rfl rfl ?_;refine D7 (fun i' hi L' _=>B0 A1 rfl (Has.imm (hi.blk _ _ g2)) rfl) rfl rfl rfl rfl rfl rfl ?_;iterate 2 refine zg rfl rfl rfl ?_
 refine D7 (fun i' hi L' _=>B0 A1 rfl (Has.imm (hi.blk _ _ k1)) rfl) rfl rfl rfl rfl rfl rfl ?_
 refine G0 (fun _ _=>True) ⟨[16],fun _ vs L'=>∃(u:Value)(ll:List Int)(O:SH),vs=[u]∧J2 3 u 1 ll.length (I3 ll) O∧(∀x,x∈ll↔x∈rs d.subsystem∨x∈gl)∧ll.length≤4000∧L'=O++L⟩ (fun _ _ _ _ _=>trivial) (fun _ _ _ _ _ h=>h) rfl rfl rfl rfl rfl rfl (fun i' hi L' _ vs _ hm _=>⟨rfl,by
  have hm:L'=L:=hm;subst hm;refine D2 (by kernel_rfl) rfl (D4c a0 ag c0 cg (rs d.subsystem) gl i' L' (hrow.le hi) (k5.le hi)) ?_;rintro u i4 L4 _ ⟨ll,O,h1,h2,h3,rfl⟩;exact⟨trivial,trivial,u,ll,O,rfl,h1,h2,h3,rfl⟩⟩) ?_
 refine E7 T9 rfl rfl rfl rfl rfl rfl ?_;refine G0 (fun _ u=>∃ao m c,u=.slice ao m c∧(m=0↔∀(j:Nat)(r:Rul),qs[j]?=some r→¬A6t r.terms d)) (stE fun L'=>L'=L) (fun _ _ _ _ h=>h) (G7 _) rfl rfl rfl rfl rfl rfl (fun i' hi L' _ vs _ hm=>?_) ?_
 ·obtain⟨u,ll,O,rfl,h1,h2,h3,rfl⟩:=hm;rintro w-hw;have hwu:w=u:=hw 0 _ _ rfl rfl rfl;subst hwu;obtain⟨a9,c9,rfl⟩:=h1.shape;refine⟨rfl,D2 (by kernel_rfl) rfl (B9m _ ll O 78 [.pointer (some ⟨b2,0,none⟩),.pointer (some ⟨b3,0,none⟩)] (notC qs d) i' L h1 (by omega) (by kernel_rfl) (fun x i4 L4 hx hi4=>?_)) ?_⟩
  ·obtain⟨j,hj,rfl⟩:∃j:Nat,j<qs.length∧x=j:=((h2 x).1 hx).elim (k9 _ x) (k8 x);obtain⟨r,hr⟩:=zi qs j hj;have l4:=hi.trans hi4;exact E8p _ qs d b2 b3 _ j r i4 L4 (hp0.le l4) (hq j r hr).1 (hq j r hr).2 hr ⟨da,dc,rfl,hda.le l4,hdk⟩ (l4.blk _ _ g2) (l4.blk _ _ g3)
  ·rintro v i4 L4 _ ⟨⟨ao,m,c,rfl,hmz⟩,rfl⟩;refine⟨trivial,⟨ao,m,c,rfl,hmz.trans ?_⟩,rfl⟩;constructor
   ·intro h j r hr hc
    have hin:(j:Int)∈ll:=by
     rw[h2];rcases k10 j r hr with h4|⟨a,h4,t,ht,h5,h6,h7⟩
     ·exact .inr h4
     ·have h8:Glob.Mat t.value (P6 t d):=(hc t ht).2 h6;have h9:P6 t d=d.subsystem:=by simp[P6,h5]
      rw[h9] at h8;rw[h7.only h8];exact .inl h4
    obtain⟨j',r',e,hr',hno⟩:=h _ hin
    have:j'=j:=by omega
    subst this;rw[hr] at hr';cases hr';exact hno hc
   ·intro h x hx;obtain⟨j,hj,rfl⟩:∃j:Nat,j<qs.length∧x=j:=((h2 x).1 hx).elim (k9 _ x) (k8 x);obtain⟨r,hr⟩:=zi qs j hj;exact⟨j,r,rfl,hr,h j r hr⟩
 refine I8 rfl rfl (fun i4 L4 vs hi4 _ _ hm=>?_);have hm:L4=L:=hm;subst hm;rintro w ⟨ao,m,c,rfl,hmz⟩ w2-hw;refine zp rfl ?_;refine zn ?_;repeat' (first|refine zn ?_|fail)
 exact⟨⟨ao,m,c,rfl,hmz⟩,rfl⟩
open Classical in
noncomputable def K8(ds:List Dev)(φ:Nat→Prop):Nat→List Int
 |0=>[]
 |k+1=>K8 ds φ k++(match ds[k]? with
  |some d=>if φ k then [d.index] else []
  |none=>[])
theorem A2h{ds:List Dev}{φ ψ:Nat→Prop}:∀{n:Nat},(∀k,k<n→(φ k↔ψ k))→K8 ds φ n=K8 ds ψ n
 |0,_=>rfl
 |n+1,h=>by
  have e:=h n (by omega);by_cases hp:ψ n
  ·simp only[K8,A2h (n:=n) fun k hk=>h k (by omega),if_pos hp,if_pos (e.2 hp)]
  ·simp only[K8,A2h (n:=n) fun k hk=>h k (by omega),if_neg hp,if_neg (fun h=>hp (e.1 h))]
theorem A0w{ds:List Dev}{φ:Nat→Prop}:∀{n:Nat},(K8 ds φ n).length≤n
 |0=>E9q _
 |n+1=>by
  have:=A0w (ds:=ds) (φ:=φ) (n:=n)
  simp only[K8,E9h];split
  ·split<;>simp<;>omega
  ·simp;omega
theorem C8h{ds:List Dev}{φ:Nat→Prop}{x:Int}:∀{n:Nat},x∈K8 ds φ n↔∃k d,k<n∧ds[k]?=some d∧φ k∧d.index=x
 |0=>by simp[K8]
 |n+1=>by
  simp only[K8,E9r,C8h (n:=n)];constructor
  ·rintro(⟨k,d,h1,h2⟩|h)
   ·exact⟨k,d,by omega,h2⟩
   ·split at h
    ·rename_i d hd;split at h
     ·rename_i hp;simp at h;exact⟨n,d,by omega,hd,hp,h.symm⟩
     ·cases h
    ·cases h
  ·rintro⟨k,d,h1,h2,h3,h4⟩
   by_cases e:k=n
   ·subst e;right;rw[h2];simp only[if_pos h3];simp[h4]
   ·exact .inl ⟨k,d,by omega,h2,h3,h4⟩
theorem A7a{ds:List Dev}{φ:Nat→Prop}{k:Nat}{d:Dev}(hd:ds[k]?=some d)(h:φ k):K8 ds φ (k+1)=K8 ds φ k++[d.index]:=by
 simp only[K8,hd,if_pos h]
theorem B0b{ds:List Dev}{φ:Nat→Prop}{k:Nat}(h:¬φ k):K8 ds φ (k+1)=K8 ds φ k:=by
 simp only[K8,if_neg h];split<;>simp
def A9d(ds:List Dev)(y x:Int):Prop:=∃e∈(chD ds ds.length x).drop 1,e.index=y
def A1f(ds:List Dev)(l:List Int)(k:Nat):Prop:=∃d,ds[k]?=some d∧(d.index∈l∨∃y∈l,A9d ds y d.index)
theorem D9v{ds:List Dev}(h:Clo.Ok (dvs ds))(l:List Int){k:Nat}(hk:k<ds.length):Clo.out (dvs ds) (· ∈l) k↔A1f ds l k:=by
 obtain⟨d,hd⟩:=zi ds k hk;have h1:(dvs ds)[k]?=some ⟨d.index,d.parent⟩:=by rw[A3m,hd];rfl
 rw[Clo.out_chain h _ k _ h1,C4f,←chD_mem ds ds.length d.index 1 (· ∈l)];unfold A1f A9d;rw[hd];constructor
 ·rintro(h|⟨e,he,hl⟩)
  ·exact⟨d,rfl,.inl h⟩
  ·exact⟨d,rfl,.inr ⟨e.index,hl,e,he,rfl⟩⟩
 ·rintro⟨d',e0,h|⟨y,hy,e,he,rfl⟩⟩<;>cases e0
  ·exact .inl h
  ·exact .inr ⟨e,he,hy⟩
theorem DVc.drop{i:Imm}{cs:List Value}{ds:List Dev}{a:Nat}(h:DVc i cs ds)(h1:a≤ds.length):DVc i (cs.drop (a*10)) (ds.drop a):=by
 have:=h.sub h1 (E9q _)
 rwa [←h.1,List.take_length,List.take_length] at this
def A8h(ds:List Dev)(qs:List Rul)(k:Nat):Prop:=∃d,ds[k]?=some d∧∃(j:Nat)(r:Rul),qs[j]?=some r∧(A3w r.terms∨A6t r.terms d)
theorem C1p{rs us:List Rul}{i:Imm}{va vb:Value}(ha:Q0 i va rs)(hb:Q0 i vb us)(a b:Nat):(V1 rs us a b).length≤2000:=by
 obtain⟨_,_,_,h5,_⟩:=ha;obtain⟨_,_,_,h6,_⟩:=hb;simp[V1];omega
end Go.Proofs.YtckdkhhpjnefpaaGreatDoor
