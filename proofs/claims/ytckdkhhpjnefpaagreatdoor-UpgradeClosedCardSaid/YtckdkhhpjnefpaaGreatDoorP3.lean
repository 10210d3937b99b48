/- What the proof leans on. No condition. -/
import Derived.Test.YtckdkhhpjnefpaaGreatDoorP2
import Derived.RangeFuncNested
import Derived.Scope
import Derived.Laws.Externs
import Derived.Lib.Bytealg
import Derived.Lib.Case
set_option maxHeartbeats 4000000
set_option linter.unusedVariables false
set_option linter.deprecated false
set_option linter.unusedSimpArgs false
set_option linter.unusedSectionVars false
open Bool renaming and_eq_true→E9j
open List renaming mem_cons_of_mem→E9u,mem_cons→F0b,all_eq_true→F0c,map_cons→F0w,append_of_mem→F0z,mem_map→F1k,mem_append→E9r,mem_append_left→F1p,getElem?_eq_some_iff→E9e,mem_of_getElem?→E9g,append_assoc→F0p,getElem?_set_ne→F0q,getElem?_eq_getElem→E9v,getElem?_map→F0k,length_cons→F1h,mem_cons_self→F0g
open Nat renaming eq_of_beq_eq_true→E9m,le_refl→E9q,le_of_ble_eq_true→E9w,blt→F0e,blt_eq→F1j,beq→E9p,ble→F0n,mod→F1m
open Option renaming map_some→F1q
open UInt8 renaming ofNat→F0d
namespace Go.Eng.Ev
noncomputable section
open Go Go.Eng
section
variable{T:F7}{N G:Nat}{cal:N8}{all:List Oper}{lim:Nat}{R R':Nat→Option VV}{W W':Nat→Option (Nat×VO)}
inductive Trc(T:F7)(N G:Nat)(cal:N8)(all:List Oper)(lim:Nat)(R:Nat→Option VV)(W:Nat→Option (Nat×VO)):List PE→DS→DS→Prop
 |nil (s:DS):Trc T N G cal all lim R W [] s s
 |cons {p:PE} {o:Oper} {q:SR} {l:List PE} {s s2:DS} (ho:all[p.j]?=some o) (hq:Z3 T N G cal all lim p o (Y0 s.f p.us) s=some q) (hre:p.re.all (D8e T N G all (B4 o s.f q).f q.hb)=true)
  (hv:R p.j=q.v) (hw:W p.j=q.w) (t:Trc T N G cal all lim R W l (B4 o s.f q) s2):Trc T N G cal all lim R W (p::l) s s2
theorem Trc.congr{l:List PE}{s s':DS}(h:Trc T N G cal all lim R W l s s'):(∀p∈l,R' p.j=R p.j∧W' p.j=W p.j)→Trc T N G cal all lim R' W' l s s':=by
 induction h with
 |nil s=>exact fun _=>.nil s
 |cons ho hq hre hv hw t ih=>exact fun k=>.cons ho hq hre ((k _ (by simp)).1.trans hv) ((k _ (by simp)).2.trans hw) (ih fun p hp=>k p (E9u _ hp))
theorem D6n:∀(l:List PE)(s s':DS),(l.map (·.j)).Nodup→evD T N G cal all lim l s=some s'→∃R W,Trc T N G cal all lim R W l s s'
 |[],s,s',_,h=>by cases h;exact⟨fun _=>none,fun _=>none,.nil s⟩
 |p::l,s,s',hn,h=>by
  simp only[evD] at h;split at h
  ·rename_i o ho;split at h
   ·rename_i q hq;cases hb:p.re.all (D8e T N G all (B4 o s.f q).f q.hb) with
    |false=>rw[hb] at h;cases h
    |true=>
     rw[hb] at h;simp only[F0w,List.nodup_cons] at hn;obtain⟨R,W,t⟩:=D6n l _ s' hn.2 h;refine⟨fun k=>if k=p.j then q.v else R k,fun k=>if k=p.j then q.w else W k,.cons (by rw[←W5];exact ho) hq hb (by simp) (by simp) (t.congr fun x hx=>?_)⟩
     have:x.j≠p.j:=fun e=>hn.1 (by rw[←e];exact F1k.2 ⟨x,hx,rfl⟩)
     simp[this]
   ·cases h
  ·cases h
theorem Trc.split:∀{a b:List PE}{s s':DS},Trc T N G cal all lim R W (a++b) s s'→∃m,Trc T N G cal all lim R W a s m∧Trc T N G cal all lim R W b m s'
 |[],b,s,s',h=>⟨s,.nil s,h⟩
 |p::a,b,s,s',h=>by
  cases h with
  |cons ho hq hre hv hw t=>
   obtain⟨m,h1,h2⟩:=t.split;exact⟨m,.cons ho hq hre hv hw h1,h2⟩
theorem Trc.app{a b:List PE}{s m s':DS}(h:Trc T N G cal all lim R W a s m):Trc T N G cal all lim R W b m s'→Trc T N G cal all lim R W (a++b) s s':=by
 induction h with
 |nil s=>exact id
 |cons ho hq hre hv hw t ih=>exact fun k=>.cons ho hq hre hv hw (ih k)
theorem D8u{d:Option Nat}{v:Option VV}{f:Tr VV}{t:Nat}{w:VV}(h:get t (B5y d v f)=some w):(d=some t∧v=some w)∨(d≠some t∧get t f=some w):=by
 unfold B5y at h;cases d with
 |none=>exact .inr ⟨by simp,h⟩
 |some d=>
  cases v with
  |none=>
   obtain⟨h1,h2⟩:=A1n h;exact .inr ⟨fun e=>h1 (Option.some.inj e).symm,h2⟩
  |some v=>
   rcases A1m h with⟨rfl,rfl⟩|⟨h1,h2⟩
   ·exact .inl ⟨rfl,rfl⟩
   ·exact .inr ⟨fun e=>h1 (Option.some.inj e).symm,h2⟩
theorem Trc.frame{l:List PE}{s s':DS}(h:Trc T N G cal all lim R W l s s'){t:Nat}{v:VV}:get t s'.f=some v→
 (∃q∈l,∃o,all[q.j]?=some o∧o.dst=some t∧R q.j=some v)∨(get t s.f=some v∧∀q∈l,∀o,all[q.j]?=some o→o.dst≠some t):=by
 induction h with
 |nil s=>exact fun h=>.inr ⟨h,fun q hq=>by cases hq⟩
 | @cons p o q l s s2 ho hq hre hv hw tt ih=>
   intro h;rcases ih h with⟨x,hx,o',h1,h2,h3⟩|⟨h1,h2⟩
   ·exact .inl ⟨x,E9u _ hx,o',h1,h2,h3⟩
   ·rcases D8u h1 with⟨h3,h4⟩|⟨h3,h4⟩
    ·exact .inl ⟨p,by simp,o,ho,h3,hv.trans h4⟩
    ·refine .inr ⟨h4,fun x hx o' ho'=>?_⟩;rcases F0b.1 hx with rfl|hx
     ·rw[ho] at ho';cases ho';exact h3
     ·exact h2 x hx o' ho'
theorem D5k{p:PE}{o:Oper}{f:Tr VV}{s:DS}{q:SR}(h:Z3 T N G cal all lim p o f s=some q):(q.w=none∧q.r=s.r)∨(p.k=2∧s.r<lim∧q.r=s.r+1∧∃vo,q.w=some (s.r,vo)):=by
 unfold Z3 at h;split at h
 ·split at h<;>(cases h;exact .inl ⟨rfl,rfl⟩)
 ·split at h
  ·split at h
   ·cases h;exact .inl ⟨rfl,rfl⟩
   ·cases h
  ·split at h
   ·cases h;exact .inl ⟨rfl,rfl⟩
   ·cases h
  ·rename_i hk;cases hb:F0e s.r lim with
   |false=>rw[hb] at h;cases h
   |true=>
    rw[hb] at h;simp only[cond_true] at h;split at h
    ·rename_i v vo _;cases h;exact .inr ⟨hk,by simpa [F1j] using hb,rfl,vo,rfl⟩
    ·cases h
  ·split at h
   ·cases h;exact .inl ⟨rfl,rfl⟩
   ·cases h
 ·cases h
theorem Trc.names{l:List PE}{s s':DS}(h:Trc T N G cal all lim R W l s s'):s.r≤s'.r∧∀q∈l,∀b vo,W q.j=some (b,vo)→s.r≤b∧b<s'.r∧b<lim∧q.k=2:=by
 induction h with
 |nil s=>exact⟨E9q _,fun q hq=>by cases hq⟩
 | @cons p o q l s s2 ho hq hre hv hw tt ih=>
   obtain⟨h1,h2⟩:=ih;simp only[B4] at h1 h2;have h3:=D5k hq;have h4:s.r≤q.r:=by rcases h3 with⟨_,e⟩|⟨_,_,e,_⟩<;>omega
   refine⟨Nat.le_trans h4 h1,fun x hx b vo hb=>?_⟩;rcases F0b.1 hx with rfl|hx
   ·rw[hw] at hb;rcases h3 with⟨e,_⟩|⟨hk,hl,e,vo',e'⟩
    ·rw[e] at hb;cases hb
    ·rw[e'] at hb;cases hb;exact⟨E9q _,by omega,hl,hk⟩
   ·obtain⟨k1,k2,k3⟩:=h2 x hx b vo hb;exact⟨by omega,k2,k3⟩
theorem Trc.namesInj{l:List PE}{s s':DS}(h:Trc T N G cal all lim R W l s s'):∀p∈l,∀q∈l,∀b vo vo',W p.j=some (b,vo)→W q.j=some (b,vo')→p.j=q.j:=by
 induction h with
 |nil s=>exact fun q hq=>by cases hq
 | @cons p o q l s s2 ho hq hre hv hw tt ih=>
   have h2:=tt.names.2;simp only[B4] at h2;have h3:=D5k hq
   have own:∀b vo,W p.j=some (b,vo)→b<q.r:=fun b vo hb=>by
    rw[hw] at hb;rcases h3 with⟨e,_⟩|⟨hk,hl,e,vo',e'⟩
    ·rw[e] at hb;cases hb
    ·rw[e'] at hb;cases hb;omega
   intro x hx y hy b vo vo' hbx hby;rcases F0b.1 hx with ex|hx'<;>rcases F0b.1 hy with ey|hy'
   ·rw[ex,ey]
   ·subst ex
    have:=own b vo hbx
    have:=(h2 y hy' b vo' hby).1
    omega
   ·subst ey
    have:=own b vo' hby
    have:=(h2 x hx' b vo hbx).1
    omega
   ·exact ih x hx' y hy' b vo vo' hbx hby
theorem D8q{p:PE}{o:Oper}{f:Tr VV}{s:DS}{q:SR}(hk:p.k≤2)(h:Z3 T N G cal all lim p o f s=some q):q.hb=s.hb∧q.n=s.n∧∀k fz vo,get k q.h=some (fz,vo)→get k s.h=some (fz,vo)∨(fz=false∧q.w=some (k,vo)):=by
 unfold Z3 at h;split at h
 ·split at h
  ·cases h;exact⟨rfl,rfl,fun _ _ _ h=>.inl h⟩
  ·cases h;exact⟨rfl,rfl,fun _ _ _ h=>.inl h⟩
  ·cases h;exact⟨rfl,rfl,fun _ _ _ h=>.inl h⟩
  ·rename_i h0 h1 h2;exfalso;have hk':p.k=0∨p.k=1∨p.k=2:=by omega
   rcases hk' with e|e|e
   ·exact h0 e
   ·exact h1 e
   ·exact h2 e
 ·split at h
  ·split at h
   ·cases h;exact⟨rfl,rfl,fun _ _ _ h=>.inl h⟩
   ·cases h
  ·split at h
   ·cases h;exact⟨rfl,rfl,fun _ _ _ h=>.inl h⟩
   ·cases h
  ·cases hb:F0e s.r lim with
   |false=>rw[hb] at h;cases h
   |true=>
    rw[hb] at h;simp only[cond_true] at h;split at h
    ·cases h;refine⟨rfl,rfl,fun k fz vo hk=>?_⟩;rcases D5m k fz vo hk with⟨rfl,rfl,rfl⟩|⟨_,hk⟩
     ·exact .inr ⟨rfl,rfl⟩
     ·exact .inl hk
    ·cases h
  ·rename_i h0 h1 h2;exfalso;have hk':p.k=0∨p.k=1∨p.k=2:=by omega
   rcases hk' with e|e|e
   ·exact h0 e
   ·exact h1 e
   ·exact h2 e
 ·cases h
theorem Trc.low{l:List PE}{s s':DS}(h:Trc T N G cal all lim R W l s s'):(∀q∈l,q.k≤2)→s'.hb=s.hb∧s'.n=s.n∧∀k fz vo,get k s'.h=some (fz,vo)→get k s.h=some (fz,vo)∨(fz=false∧∃q∈l,W q.j=some (k,vo)):=by
 induction h with
 |nil s=>exact fun _=>⟨rfl,rfl,fun _ _ _ h=>.inl h⟩
 | @cons p o q l s s2 ho hq hre hv hw tt ih=>
   intro hk;obtain⟨h1,h2,h3⟩:=ih fun x hx=>hk x (E9u _ hx)
   obtain⟨k1,k2,k3⟩:=D8q (hk p (by simp)) hq;simp only[B4] at h1 h2 h3;refine⟨h1.trans k1,h2.trans k2,fun k fz vo hg=>?_⟩;rcases h3 k fz vo hg with hg|⟨e,x,hx,hxw⟩
   ·rcases k3 k fz vo hg with hg|⟨e,hqw⟩
    ·exact .inl hg
    ·exact .inr ⟨e,p,by simp,hw.trans hqw⟩
   ·exact .inr ⟨e,x,E9u _ hx,hxw⟩
structure PEok(all:List Oper)(plan a:List PE)(p:PE)(o:Oper):Prop where
 anc1:∀x∈p.anc,x∈A6n o∨∃q∈a,q.j∈A6n o∧x∈q.anc
 anc2:∀x∈p.anc,∃q∈a,q.j=x
 us:∀t∈p.us,∀q∈plan,∀o',all[q.j]?=some o'→o'.dst=some t→q.j∈p.anc
 ne:∀q∈a,q.j≠p.j
 tr:∀q∈a,q.j∈p.anc→∀x∈q.anc,x∈p.anc
 ch:∀q∈a,3≤p.k→q.j∈p.anc∨q.k=0∨(q.k=1∧(q.j,q.us)∈p.re)
 rd:∀q∈a,p.k=1→3≤q.k→q.j∈p.anc
theorem okPE_ok{plan a:List PE}{p:PE}{o:Oper}(h:okPE all plan a p o=true):PEok all plan a p o:=by
 unfold okPE at h;simp only[E9j] at h;obtain⟨⟨h1,h2⟩,h3⟩:=h;rw[F0c] at h1 h2 h3;refine⟨fun x hx=>?_,fun x hx=>?_,fun t ht q hq o' ho' hd=>?_,fun q hq=>?_,fun q hq hj x hx=>?_,fun q hq hk=>?_,fun q hq hk hk'=>?_⟩
 ·have:=h1 x hx
  simp only[E9j,Bool.or_eq_true,A3z,List.any_eq_true] at this;rcases this.1 with h|⟨q,hq,h⟩
  ·exact .inl h
  ·exact .inr ⟨q,hq,h.1,h.2⟩
 ·have:=h1 x hx
  simp only[E9j,List.any_eq_true] at this;obtain⟨q,hq,e⟩:=this.2;exact⟨q,hq,E9m e⟩
 ·have:=F0c.1 (h2 t ht) q hq
  rw[A4a ho' hd] at this;simpa [A3z] using this
 ·have:=h3 q hq
  simp only[E9j] at this;intro e;have h4:=this.1.1.1;rw[e] at h4;simp at h4
 ·have:=h3 q hq
  simp only[E9j,Bool.or_eq_true] at this;rcases this.1.1.2 with h4|h4
  ·rw[A3z.2 hj] at h4;cases h4
  ·exact A3z.1 (F0c.1 h4 x hx)
 ·have:=h3 q hq
  simp only[E9j,Bool.or_eq_true] at this;rcases this.1.2 with((h4|h4)|h4|h4)
  ·have:=E9w h4
   omega
  ·exact .inl (A3z.1 h4)
  ·exact .inr (.inl (E9m h4))
  ·refine .inr (.inr ⟨E9m h4.1,?_⟩);obtain⟨x,hx,h5⟩:=List.any_eq_true.1 h4.2;simp only[E9j] at h5;rw[←E9m h5.1,←D6p h5.2];exact hx
 ·have:=h3 q hq
  simp only[E9j,Bool.or_eq_true] at this;rcases this.2 with((h4|h4)|h4)
  ·rw[hk] at h4;simp at h4
  ·have:=E9w h4
   omega
  ·exact A3z.1 h4
theorem C8q{plan:List PE}:∀{l bef:List PE},D4z all plan bef l=true→∀a p b,l=a++p::b→∃o,all[p.j]?=some o∧PEok all plan (bef++a) p o
 |[],bef,h,a,p,b,e=>by cases a<;>cases e
 |x::l,bef,h,a,p,b,e=>by
  simp only[D4z] at h;split at h
  ·rename_i o ho;simp only[E9j] at h;cases a with
   |nil=>
    cases e;exact⟨o,by rw[←W5];exact ho,by simpa using okPE_ok h.1⟩
   |cons y a=>
    cases e;obtain⟨o',h1,h2⟩:=C8q h.2 a p b rfl;exact⟨o',h1,by simpa using h2⟩
  ·cases h
theorem B6x{plan:List PE}(h:D5a all plan=true){p q:PE}(hp:p∈plan)(hq:q∈plan){o o':Oper}{t:Nat}(ho:all[p.j]?=some o)(hd:o.dst=some t)(ho':all[q.j]?=some o')(hd':o'.dst=some t):p.j=q.j:=by
 unfold D5a at h;have h1:=F0c.1 h p hp;rw[W5,ho] at h1;simp only[hd] at h1;have h2:=F0c.1 h1 q hq;rw[A4a ho' hd'] at h2;simpa using h2
def Cl(all:List Oper)(s:Nat→Bool):Prop:=∀k o,s k=true→all[k]?=some o→∀x∈A6n o,s x=true
theorem anc_in{plan:List PE}(hp:∀a p b,plan=a++p::b→∃o,all[p.j]?=some o∧PEok all plan a p o){s:Nat→Bool}(hs:Cl all s):∀(m:Nat)(a:List PE)(p:PE)(b:List PE)(o:Oper),a.length=m→plan=a++p::b→all[p.j]?=some o→(∀x∈A6n o,s x=true)→∀x∈p.anc,s x=true:=by
 intro m;induction m using Nat.strongRecOn with
 |_ m ih=>
  intro a p b o hm e ho hd x hx;obtain⟨o',ho',hok⟩:=hp a p b e;rw[ho] at ho';cases ho';rcases hok.anc1 x hx with h|⟨q,hq,h1,h2⟩
  ·exact hd x h
  ·obtain⟨a1,a2,ea⟩:=F0z hq;have e2:plan=a1++q::(a2++p::b):=by rw[e,ea];simp
   obtain⟨oq,hoq,_⟩:=hp a1 q _ e2;exact ih a1.length (by rw[←hm,ea];simp) a1 q _ oq rfl e2 hoq (hs q.j oq (hd _ h1) hoq) x h2
theorem E5n{o:Oper}{x:Nat}:x∈A6n o↔∃e∈o.after,Region.binds .any e=true∧e.on=x:=by
 unfold A6n;rw[F1k];constructor
 ·rintro⟨e,he,rfl⟩
  rw[List.mem_filter] at he;exact⟨e,by simpa using he.1,he.2,rfl⟩
 ·rintro⟨e,he,hb,rfl⟩
  exact⟨e,List.mem_filter.2 ⟨by simpa using he,hb⟩,rfl⟩
end
end
noncomputable section
open Go Go.Eng
theorem P4{s:Nat→Bool}{j k:Nat}(h:s k=true):X5 s j k=true:=by
 by_cases e:k=j
 ·subst e;exact U4 ..
 ·rw[S9 _ e];exact h
theorem B8p{s:Nat→Bool}{j k:Nat}(h:X5 s j k=false):s k=false∧k≠j:=by
 by_cases e:k=j
 ·subst e;rw[U4] at h;cases h
 ·rw[S9 _ e] at h;exact⟨h,e⟩
theorem U3{s:Nat→Bool}{j k:Nat}(h:X5 s j k=true):k=j∨(k≠j∧s k=true):=by
 by_cases e:k=j
 ·exact .inl e
 ·rw[S9 _ e] at h;exact .inr ⟨e,h⟩
section
variable{Γ:F7→I4→Code→Prop}{P:Program}{T:F7}{N G:Nat}{cal:N8}{all:List Oper}{lim:Nat}{R:Nat→Option VV}{W:Nat→Option (Nat×VO)}{plan:List PE}{ρ0:Loc}{D0:J8}{n0:Nat}{σ0 σfin:DS}
def DM(D0:J8)(lim:Nat)(W:Nat→Option (Nat×VO))(pre:List PE)(σ:DS):J8:=fun b=>D0 b∨(lim≤b∧b<σ.n)∨∃q∈pre,∃vo,W q.j=some (b,vo)
def DA(D0:J8)(lim:Nat)(W:Nat→Option (Nat×VO))(plan pre:List PE)(σ:DS)(p:PE):J8:=fun b=>DM D0 lim W pre σ b∨∃q∈plan,q.j∈p.anc∧∃vo,W q.j=some (b,vo)
def DB(D0:J8)(lim:Nat)(W:Nat→Option (Nat×VO))(plan pre:List PE)(σ:DS)(p:PE):J8:=fun b=>DA D0 lim W plan pre σ p b∨∃vo,W p.j=some (b,vo)
def DD(D0:J8)(lim:Nat)(W:Nat→Option (Nat×VO))(plan pre:List PE)(σ:DS)(s:Nat→Bool):J8:=fun b=>DM D0 lim W pre σ b∨∃q∈plan,s q.j=true∧∃vo,W q.j=some (b,vo)
def SS(W:Nat→Option (Nat×VO))(suf:List PE)(σ:DS)(s:Nat→Bool):Nat→Bool→VO→Prop:=fun k fz vo=>get k σ.h=some (fz,vo)∨(fz=false∧∃q∈suf,s q.j=true∧W q.j=some (k,vo))
def Ready(T:F7)(N G:Nat)(all:List Oper)(R:Nat→Option VV)(p:PE)(σ:DS)(o:Oper):Prop:=
 (C5n N (Y0 σ.f p.us) all o=some true∧∃v,A6r T N G (Y0 σ.f p.us) σ.h o.op=some v∧∀w,R p.j=some w→w=v)∨C5n N (Y0 σ.f p.us) all o=some false
structure Ctx(Γ:F7→I4→Code→Prop)(P:Program)(T:F7)(N G:Nat)(cal:N8)(all:List Oper)(lim:Nat)(R:Nat→Option VV)(W:Nat→Option (Nat×VO))(plan:List PE)(ρ0:Loc)(D0:J8)(n0:Nat)(σ0 σfin:DS):Prop where
 hT:T.ok P
 hcal:CalOk P Γ G cal
 hp:∀a p b,plan=a++p::b→∃o,all[p.j]?=some o∧PEok all plan a p o
 hdst:D5a all plan=true
 ht:Trc T N G cal all lim R W plan σ0 σfin
 hG:Glob Γ ρ0 D0 G
 hD:X2 D0 n0
 hn:n0≤lim
 r0:σ0.r=n0
structure HI(T:F7)(N G:Nat)(cal:N8)(all:List Oper)(lim:Nat)(R:Nat→Option VV)(W:Nat→Option (Nat×VO))(plan:List PE)(ρ0:Loc)(D0:J8)(σ0 σfin:DS)
 (pre suf:List PE) (σ:DS) (ρ:Loc) (s:Nat→Bool) (g:Fr) (i:Imm) (L:SH):Prop where
 pl:plan=pre++suf
 t1:Trc T N G cal all lim R W pre σ0 σ
 t2:Trc T N G cal all lim R W suf σ σfin
 hh:σ.hb=σ.h
 nn:lim≤σ.n
 cl:Cl all s
 c1:∀q∈pre,3≤q.k→s q.j=true
 c2:∀q∈suf,3≤q.k→s q.j=false
 c3:∀q∈pre,q.k=2→s q.j=true
 c4:∀q∈pre,q.k=1→s q.j=false→∀o,all[q.j]?=some o→Ready T N G all R q σ o
 ex:Ext D0 ρ0 ρ
 sa:∀q∈plan,s q.j=true→∀o t v,all[q.j]?=some o→o.dst=some t→R q.j=some v→v.lt (DB D0 lim W plan pre σ q)∧g t=C2 ρ v
 sb:∀t v,(∀q∈plan,∀o:Oper,all[q.j]?=some o→o.dst≠some t)→get t σ0.f=some v→v.lt D0∧g t=C2 ρ v
 la:LayP ρ (DD D0 lim W plan pre σ s) (SS W suf σ s) i L
 lk:∀k fz vo,get k σ.h=some (fz,vo)→DM D0 lim W pre σ k∧vo.lt (DM D0 lim W pre σ)
 lw:∀q∈plan,s q.j=true→∀k vo,W q.j=some (k,vo)→vo.lt (DB D0 lim W plan pre σ q)
theorem Ctx.inj(C:Ctx Γ P T N G cal all lim R W plan ρ0 D0 n0 σ0 σfin){p q:PE}(hp:p∈plan)(hq:q∈plan)(e:p.j=q.j):p=q:=by
 obtain⟨a,b,hab⟩:=F0z hp;have h1:=hq;rw[hab,E9r,F0b] at h1;rcases h1 with h1|h1|h1
 ·obtain⟨_,_,k⟩:=C.hp a p b hab;exact absurd e.symm (k.ne q h1)
 ·exact h1.symm
 ·obtain⟨b1,b2,hb⟩:=F0z h1;obtain⟨_,_,k⟩:=C.hp (a++p::b1) q b2 (by rw[hab,hb];simp);exact absurd e (k.ne p (by simp))
section
variable{pre suf:List PE}{σ:DS}{ρ:Loc}{s:Nat→Bool}{g:Fr}{i:Imm}{L:SH}
variable(C:Ctx Γ P T N G cal all lim R W plan ρ0 D0 n0 σ0 σfin)(H:HI T N G cal all lim R W plan ρ0 D0 σ0 σfin pre suf σ ρ s g i L)
include C H
theorem HI.anc{q:PE}(hq:q∈plan){o:Oper}(ho:all[q.j]?=some o)(hd:∀x∈A6n o,s x=true):∀x∈q.anc,s x=true:=by
 obtain⟨a,b,hab⟩:=F0z hq;exact anc_in C.hp H.cl a.length a q b o rfl hab ho hd
theorem HI.ancS{q:PE}(hq:q∈plan)(hs:s q.j=true):∀x∈q.anc,s x=true:=by
 obtain⟨a,b,hab⟩:=F0z hq;obtain⟨o,ho,_⟩:=C.hp a q b hab;exact H.anc C hq ho (H.cl q.j o hs ho)
theorem HI.DA_le{p:PE}(ha:∀x∈p.anc,s x=true):(DA D0 lim W plan pre σ p).le (DD D0 lim W plan pre σ s):=fun b hb=>by
 rcases hb with hb|⟨q,hq,hj,vo,hw⟩
 ·exact .inl hb
 ·exact .inr ⟨q,hq,ha _ hj,vo,hw⟩
theorem HI.DB_le{q:PE}(hq:q∈plan)(hs:s q.j=true):(DB D0 lim W plan pre σ q).le (DD D0 lim W plan pre σ s):=fun b hb=>by
 rcases hb with hb|⟨vo,hw⟩
 ·exact H.DA_le C (H.ancS C hq hs) b hb
 ·exact .inr ⟨q,hq,hs,vo,hw⟩
theorem HI.slots{a b a' b':List PE}{p:PE}(hab:plan=a++p::b)(hs:∀x∈p.anc,s x=true){σ':DS}(hab':plan=a'++b')(ht:Trc T N G cal all lim R W a' σ0 σ')(hin:∀q∈a,q∈a'):
 G5 ρ (DA D0 lim W plan pre σ p) (Y0 σ'.f p.us) g:=by
 obtain⟨o,ho,hok⟩:=C.hp a p b hab;intro t v hv;obtain⟨hu,hg⟩:=A4d hv;have ma:∀q∈a,q∈plan:=fun q hq=>by rw[hab];simp[hq]
 rcases ht.frame hg with⟨q,hq,oq,h1,h2,h3⟩|⟨h1,h2⟩
 ·have hqp:q∈plan:=by rw[hab'];simp[hq]
  have hqa:=hok.us t hu q hqp oq h1 h2;obtain⟨h4,h5⟩:=H.sa q hqp (hs _ hqa) oq t v h1 h2 h3;refine⟨VV.lt_mono ?_ v h4,h5⟩;obtain⟨q',hq',ej⟩:=hok.anc2 q.j hqa;have eq:=C.inj (ma q' hq') hqp ej;subst eq;rintro x (hx|⟨vo,hw⟩)
  ·rcases hx with hx|⟨y,hy,hj,vo,hw⟩
   ·exact .inl hx
   ·exact .inr ⟨y,hy,hok.tr q' hq' hqa _ hj,vo,hw⟩
  ·exact .inr ⟨q',hqp,hqa,vo,hw⟩
 ·have hno:∀q∈plan,∀o':Oper,all[q.j]?=some o'→o'.dst≠some t:=fun q0 hq0 o' hk hd=>by
   have hka:=hok.us t hu q0 hq0 o' hk hd;obtain⟨q,hq,e⟩:=hok.anc2 q0.j hka;exact h2 q (hin q hq) o' (by rw[e];exact hk) hd
  obtain⟨h4,h5⟩:=H.sb t v hno h1;exact⟨VV.lt_mono (fun x hx=>.inl (.inl hx)) v h4,h5⟩
theorem HI.globA{p:PE}:Glob Γ ρ (DA D0 lim W plan pre σ p) G:=C.hG.ext H.ex fun b hb=>.inl (.inl hb)
theorem HI.step{p:PE}(hpp:p∈plan)(hk:p.k≤2)(hsj:s p.j=false){o:Oper}(ho:all[p.j]?=some o)(hd:∀x∈A6n o,s x=true){ρ':Loc}{i':Imm}{L':SH}{u:Value}
 (hx:Ext (DD D0 lim W plan pre σ s) ρ ρ') (hl:LayP ρ' (DD D0 lim W plan pre σ (X5 s p.j)) (SS W suf σ (X5 s p.j)) i' L') (hv:∀v,R p.j=some v→v.lt (DB D0 lim W plan pre σ p)∧u=C2 ρ' v) (hw:∀k vo,W p.j=some (k,vo)→vo.lt (DB D0 lim W plan pre σ p)):
 HI T N G cal all lim R W plan ρ0 D0 σ0 σfin pre suf σ ρ' (X5 s p.j) (F3 g o.dst u) i' L':=by
 refine⟨H.pl,H.t1,H.t2,H.hh,H.nn,fun k o' hs ho' x hx'=>?_,fun q hq h=>P4 (H.c1 q hq h),fun q hq h=>?_,fun q hq h=>P4 (H.c3 q hq h),fun q hq h hs=>H.c4 q hq h (B8p hs).1,
  H.ex.trans hx fun b hb=>.inl (.inl hb),fun q hq hs o' t v ho' hd' hR=>?_,fun t v hno hg=>?_,hl,H.lk,fun q hq hs k vo h=>?_⟩
 ·rcases U3 hs with rfl|⟨_,hs⟩
  ·rw[ho] at ho';cases ho';exact P4 (hd x hx')
  ·exact P4 (H.cl k o' hs ho' x hx')
 ·have hne:q.j≠p.j:=fun e=>by
   have:=C.inj (by rw[H.pl];simp[hq]) hpp e
   subst this;omega
  rw[S9 _ hne];exact H.c2 q hq h
 ·rcases U3 hs with e|⟨hne,hs⟩
  ·have:=C.inj hq hpp e
   subst this;rw[ho] at ho';cases ho';obtain⟨h1,h2⟩:=hv v hR;refine⟨h1,?_⟩;rw[hd',←h2];exact K2 ..
  ·obtain⟨h1,h2⟩:=H.sa q hq hs o' t v ho' hd' hR;refine⟨h1,?_⟩;have hdn:o.dst≠some t:=fun e=>hne (B6x C.hdst hq hpp ho' hd' ho e)
   rw[A9z hx v (VV.lt_mono (H.DB_le C hq hs) v h1),←h2];cases hdo:o.dst with
   |none=>rfl
   |some d=>exact M8 _ _ fun e=>hdn (by rw[hdo,e])
 ·obtain⟨h1,h2⟩:=H.sb t v hno hg;refine⟨h1,?_⟩;rw[A9z hx v (VV.lt_mono (fun b hb=>.inl (.inl hb)) v h1),←h2];cases hdo:o.dst with
  |none=>rfl
  |some d=>exact M8 _ _ fun e=>hno p hpp o ho (by rw[hdo,e])
 ·rcases U3 hs with e|⟨_,hs⟩
  ·have:=C.inj hq hpp e
   subst this;exact hw k vo h
  ·exact H.lw q hq hs k vo h
theorem HI.keepL{p:PE}(hpp:p∈plan)(hw:W p.j=none):LayP ρ (DD D0 lim W plan pre σ (X5 s p.j)) (SS W suf σ (X5 s p.j)) i L:=by
 refine(H.la.mono ?_).sub ?_
 ·rintro b (hb|⟨q,hq,hs,vo,h⟩)
  ·exact .inl hb
  ·exact .inr ⟨q,hq,P4 hs,vo,h⟩
 ·rintro k fz vo (h|⟨e,q,hq,hs,h⟩)
  ·exact .inl h
  ·refine .inr ⟨e,q,hq,?_,h⟩;rcases U3 hs with ej|⟨_,hs⟩
   ·rw[ej,hw] at h;cases h
   ·exact hs
end
end
end
noncomputable section
open Go Go.Eng
section
variable{Γ:F7→I4→Code→Prop}{P:Program}{T:F7}{N G:Nat}{cal:N8}{all:List Oper}{lim:Nat}{R:Nat→Option VV}{W:Nat→Option (Nat×VO)}{plan:List PE}{ρ0:Loc}{D0:J8}{n0:Nat}{σ0 σfin:DS}
def HH(T:F7)(N G:Nat)(cal:N8)(all:List Oper)(lim:Nat)(R:Nat→Option VV)(W:Nat→Option (Nat×VO))(plan:List PE)(ρ0:Loc)(D0:J8)(σ0 σfin:DS)(s:Nat→Bool)(g:Fr)(i:Imm)(L:SH):Prop:=
 ∃pre suf σ ρ,HI T N G cal all lim R W plan ρ0 D0 σ0 σfin pre suf σ ρ s g i L
section
variable{pre suf:List PE}{σ:DS}{ρ:Loc}{s:Nat→Bool}{g:Fr}{i:Imm}{L:SH}
variable(C:Ctx Γ P T N G cal all lim R W plan ρ0 D0 n0 σ0 σfin)(H:HI T N G cal all lim R W plan ρ0 D0 σ0 σfin pre suf σ ρ s g i L)
include C H
def D8m(P:Program)(T:F7)(N G:Nat)(cal:N8)(all:List Oper)(lim:Nat)(R:Nat→Option VV)(W:Nat→Option (Nat×VO))(plan:List PE)(ρ0:Loc)(D0:J8)(σ0 σfin:DS)(s:Nat→Bool)(g:Fr)(i:Imm)(L:SH)(j:Nat)(o:Oper):Prop:=
 (P9 N g all o=true∧P3 P N o g i L fun v i'' L''=>HH T N G cal all lim R W plan ρ0 D0 σ0 σfin (X5 s j) (F3 g o.dst v) i'' L'')∨(P9 N g all o=false∧HH T N G cal all lim R W plan ρ0 D0 σ0 σfin (X5 s j) (F3 g o.dst undef) i L)
omit C in
theorem HI.base:X7 ρ (DM D0 lim W pre σ) σ.h i L:=by
 have:=H.la.sub (S':=fun k fz vo=>get k σ.h=some (fz,vo)) fun k fz vo h=>.inl h
 exact⟨fun k fz vo hk=>⟨(H.lk k fz vo hk).1,(H.lk k fz vo hk).2,(this.ok k fz vo hk).2.2⟩,this.inj,this.frm⟩
omit C in
theorem HI.empty{D:J8}:X7 ρ D .lf i L:=
 {ok:=fun k fz vo hk=>by rw[A4v] at hk;cases hk
  inj:=fun k k' vo vo' hk=>by rw[A4v] at hk;cases hk
  frm:=fun p hp=>⟨(H.la.frm p hp).1,fun k vo hk=>by rw[A4v] at hk;cases hk⟩}
theorem HI.fresh{p:PE}(hp:p∈plan)(hs:s p.j=false){b:Nat}{vo:VO}(hw:W p.j=some (b,vo)):¬DD D0 lim W plan pre σ s b:=by
 obtain⟨h1,h2⟩:=C.ht.names;obtain⟨h3,_,h5,h6⟩:=h2 p hp b vo hw
 rintro((h|h|⟨q,hq,vo',h⟩)|⟨q,hq,hsq,vo',h⟩)
 ·have:=C.hD b h
  have:=C.r0
  omega
 ·omega
 ·have e:=C.ht.namesInj q (by rw[H.pl];simp[hq]) p hp b vo' vo h hw;have e':=C.inj (by rw[H.pl];simp[hq]) hp e;subst e';rw[H.c3 q hq h6] at hs;cases hs
 ·have e:=C.ht.namesInj q hq p hp b vo' vo h hw;rw[e,hs] at hsq;cases hsq
theorem HI.value{p:PE}(hpp:p∈plan)(hk:p.k≤1)(hsj:s p.j=false){o:Oper}(ho:all[p.j]?=some o)(hd:∀x∈A6n o,s x=true){f:Tr VV}(hS:G5 ρ (DA D0 lim W plan pre σ p) f g){b:Bool}(hgk:C5n N f all o=some b)
 (hb:b=true→∃v,(A6r T N G f .lf o.op=some v∨A6r T N G f σ.h o.op=some v)∧∀w,R p.j=some w→w=v) (hb':b=false→R p.j=some (.tup [])):D8m P T N G cal all lim R W plan ρ0 D0 σ0 σfin s g i L p.j o:=by
 have hg:=A1k hS hgk
 have hw:W p.j=none:=by
  cases hwp:W p.j with
  |none=>rfl
  |some x=>
   have:=(C.ht.names.2 p hpp x.1 x.2 hwp).2.2.2
   omega
 cases b with
 |false=>
  refine .inr ⟨hg,pre,suf,σ,ρ,H.step C hpp (by omega) hsj ho hd (Ext.refl _ _) (H.keepL C hpp hw) (fun v hv=>?_) fun k vo h=>?_⟩
  ·rw[hb' rfl] at hv;cases hv;simp[VV.lt,C5,C2,C3,undef]
  ·rw[hw] at h;cases h
 |true=>
  obtain⟨v,hv,hR⟩:=hb rfl
  have key:v.lt (DA D0 lim W plan pre σ p)∧LV P N g i L o (C2 ρ v):=by
   rcases hv with hv|hv
   ·exact B0p C.hT hS (H.globA C) H.empty hv
   ·exact B0p C.hT hS (H.globA C) (H.base.mono fun b hb=>.inl hb) hv
  obtain⟨h1,h2⟩:=key;unfold LV at h2;refine .inl ⟨hg,M4 (fun w hw=>h2 w hw) ⟨pre,suf,σ,ρ,H.step C hpp (by omega) hsj ho hd (Ext.refl _ _) (H.keepL C hpp hw) (fun w hw'=>?_) fun k vo h=>?_⟩⟩
  ·rw[hR w hw'];exact⟨VV.lt_mono (fun b hb=>.inl hb) v h1,rfl⟩
  ·rw[hw] at h;cases h
theorem HI.split{a b:List PE}{p:PE}(hab:plan=a++p::b):∃(σp:DS)(o:Oper)(q:SR),Trc T N G cal all lim R W a σ0 σp∧all[p.j]?=some o∧Z3 T N G cal all lim p o (Y0 σp.f p.us) σp=some q∧R p.j=q.v∧W p.j=q.w:=by
 have:=C.ht
 rw[hab] at this;obtain⟨σp,h1,h2⟩:=this.split;cases h2 with
 |cons ho hq hre hv hw t=>exact⟨σp,_,_,h1,ho,hq,hv,hw⟩
theorem HI.splitS{a b:List PE}{p:PE}(hab:suf=a++p::b):∃(σp:DS)(o:Oper)(q:SR),Trc T N G cal all lim R W a σ σp∧Trc T N G cal all lim R W (pre++a) σ0 σp∧all[p.j]?=some o∧Z3 T N G cal all lim p o (Y0 σp.f p.us) σp=some q∧R p.j=q.v∧W p.j=q.w∧
 p.re.all (D8e T N G all (B4 o σp.f q).f q.hb)=true∧Trc T N G cal all lim R W b (B4 o σp.f q) σfin:=by
 have:=H.t2
 rw[hab] at this;obtain⟨σp,h1,h2⟩:=this.split;cases h2 with
 |cons ho hq hre hv hw t=>exact⟨σp,_,_,h1,H.t1.app h1,ho,hq,hv,hw,hre,t⟩
theorem HI.kind0{p:PE}(hpp:p∈plan)(hk:p.k=0)(hsj:s p.j=false){o:Oper}(ho:all[p.j]?=some o)(hd:∀x∈A6n o,s x=true):D8m P T N G cal all lim R W plan ρ0 D0 σ0 σfin s g i L p.j o:=by
 obtain⟨a,b,hab⟩:=F0z hpp;obtain⟨σp,o',q,h1,h2,h3,h4,h5⟩:=H.split C hab;rw[ho] at h2;cases h2;have hS:=H.slots C hab (H.anc C hpp ho hd) (a':=a) (b':=p::b) hab h1 fun q hq=>hq
 unfold Z3 at h3;split at h3
 ·rename_i hg;refine H.value C hpp (by omega) hsj ho hd hS hg (fun e=>by cases e) fun _=>?_
  rw[hk] at h3;cases h3;exact h4
 ·rename_i hg;refine H.value C hpp (by omega) hsj ho hd hS hg (fun _=>?_) fun e=>by cases e
  rw[hk] at h3;simp only at h3;split at h3
  ·rename_i v hv;cases h3;exact⟨v,.inl hv,fun w hw=>by rw[h4] at hw;exact(Option.some.inj hw).symm⟩
  ·cases h3
 ·cases h3
theorem HI.kind1{p:PE}(hpp:p∈plan)(hk:p.k=1)(hsj:s p.j=false){o:Oper}(ho:all[p.j]?=some o)(hd:∀x∈A6n o,s x=true):D8m P T N G cal all lim R W plan ρ0 D0 σ0 σfin s g i L p.j o:=by
 have hanc:=H.anc C hpp ho hd;have hmem:=hpp;rw[H.pl,E9r] at hmem;rcases hmem with hm|hm
 ·obtain⟨a,b,hab⟩:=F0z hm;have hab':plan=a++p::(b++suf):=by rw[H.pl,hab];simp
  obtain⟨σp,o',q,h1,h2,h3,h4,h5⟩:=H.split C hab';rw[ho] at h2;cases h2;have hS':=H.slots C hab' hanc (a':=a) (b':=p::(b++suf)) hab' h1 fun q hq=>hq
  have hS:=H.slots C hab' hanc (a':=pre) (b':=suf) H.pl H.t1 fun q hq=>by rw[hab];simp[hq]
  rcases H.c4 p hm hk hsj o ho with⟨k1,v,k2,k3⟩|k1
  ·exact H.value C hpp (by omega) hsj ho hd hS k1 (fun _=>⟨v,.inr k2,k3⟩) fun e=>by cases e
  ·refine H.value C hpp (by omega) hsj ho hd hS k1 (fun e=>by cases e) fun _=>?_
   have hf:=A1k hS k1;unfold Z3 at h3;split at h3
   ·rw[hk] at h3;cases h3;exact h4
   ·rename_i hg;rw[A1k hS' hg] at hf;cases hf
   ·cases h3
 ·obtain⟨a,b,hab⟩:=F0z hm;have hab':plan=(pre++a)++p::b:=by rw[H.pl,hab];simp
  obtain⟨σp,o',q,h1,h1',h2,h3,h4,h5,_,_⟩:=H.splitS C hab;rw[ho] at h2;cases h2;have hS:=H.slots C hab' hanc (a':=pre++a) (b':=p::b) hab' h1' fun q hq=>hq
  obtain⟨o2,ho2,hok⟩:=C.hp _ p _ hab'
  have hlow:∀q∈a,q.k≤2:=fun q hq=>by
   rcases Nat.lt_or_ge 2 q.k with h|h
   ·have h6:=hanc _ (hok.rd q (by simp[hq]) hk h);rw[H.c2 q (by rw[hab];simp[hq]) h] at h6;cases h6
   ·exact h
  obtain⟨k1,_,_⟩:=h1.low hlow;unfold Z3 at h3;split at h3
  ·rename_i hg;refine H.value C hpp (by omega) hsj ho hd hS hg (fun e=>by cases e) fun _=>?_
   rw[hk] at h3;cases h3;exact h4
  ·rename_i hg;refine H.value C hpp (by omega) hsj ho hd hS hg (fun _=>?_) fun e=>by cases e
   rw[hk] at h3;simp only at h3;split at h3
   ·rename_i v hv;cases h3;exact⟨v,.inr (by rw[←H.hh,←k1];exact hv),fun w hw=>by rw[h4] at hw;exact(Option.some.inj hw).symm⟩
   ·cases h3
  ·cases h3
theorem HI.kind2{p:PE}(hpp:p∈plan)(hk:p.k=2)(hsj:s p.j=false){o:Oper}(ho:all[p.j]?=some o)(hd:∀x∈A6n o,s x=true):D8m P T N G cal all lim R W plan ρ0 D0 σ0 σfin s g i L p.j o:=by
 have hanc:=H.anc C hpp ho hd;have hmem:=hpp;rw[H.pl,E9r] at hmem;rcases hmem with hm|hm
 ·rw[H.c3 p hm hk] at hsj;cases hsj
 ·obtain⟨a,b,hab⟩:=F0z hm;have hab':plan=(pre++a)++p::b:=by rw[H.pl,hab];simp
  obtain⟨σp,o',q,h1,h1',h2,h3,h4,h5,_,_⟩:=H.splitS C hab;rw[ho] at h2;cases h2;have hS:=H.slots C hab' hanc (a':=pre++a) (b':=p::b) hab' h1' fun q hq=>hq
  unfold Z3 at h3;split at h3
  ·rename_i hg;rw[hk] at h3;cases h3;refine .inr ⟨A1k hS hg,pre,suf,σ,ρ,H.step C hpp (by omega) hsj ho hd (Ext.refl _ _) (H.keepL C hpp h5) (fun v hv=>?_) fun k vo h=>?_⟩
   ·rw[h4] at hv;cases hv;simp[VV.lt,C5,C2,C3,undef]
   ·rw[h5] at h;cases h
  ·rename_i hg;rw[hk] at h3;simp only at h3;cases hbl:F0e σp.r lim with
   |false=>rw[hbl] at h3;cases h3
   |true=>
    rw[hbl] at h3;simp only[cond_true] at h3;split at h3
    ·rename_i v vo hv;cases h3;have hfr:=H.fresh C hpp hsj h5;have hle:=H.DA_le C hanc;have hnew:=C9g (i:=i) (L:=L) C.hT hS (H.globA C) (fun h=>hfr (hle _ h)) hv;refine .inl ⟨A1k hS hg,A8f hnew ?_⟩;rintro u i' L' w _ hst ⟨rfl,hvl,hvo,bb,ob,c,rfl,hu,hob⟩;refine⟨i',_,Imm.le.refl i',hst,pre,suf,σ,ρ.add σp.r bb c,H.step C hpp (by omega) hsj ho hd (ρ.add_ext hfr bb c) ?_ (fun v' hv'=>?_) fun k vo' h=>?_⟩
     ·refine((H.la.push hfr hst.nodup (VO.lt_mono (fun x hx=>hx.imp (hle x) id) hvo) hob).mono ?_).sub ?_
      ·rintro x ((hx|⟨y,hy,hsy,vo',h⟩)|rfl)
       ·exact .inl hx
       ·exact .inr ⟨y,hy,P4 hsy,vo',h⟩
       ·exact .inr ⟨p,hpp,U4 ..,vo,h5⟩
      ·rintro k fz vo' (h|⟨e,y,hy,hsy,h⟩)
       ·refine .inr ⟨?_,.inl h⟩;rintro rfl;exact hfr (.inl (H.lk _ _ _ h).1)
       ·rcases U3 hsy with ej|⟨hne,hsy⟩
        ·rw[ej,h5] at h;cases h;exact .inl ⟨rfl,e,rfl⟩
        ·refine .inr ⟨?_,.inr ⟨e,y,hy,hsy,h⟩⟩;rintro rfl;exact hfr (.inr ⟨y,by rw[H.pl];simp[hy],hsy,vo',h⟩)
     ·rw[h4] at hv';cases hv';refine⟨VV.lt_mono ?_ _ hvl,hu⟩;rintro x (hx|rfl)
      ·exact .inl hx
      ·exact .inr ⟨vo,h5⟩
     ·rw[h5] at h;cases h;refine VO.lt_mono ?_ hvo;rintro x (hx|rfl)
      ·exact .inl hx
      ·exact .inr ⟨vo,h5⟩
    ·cases h3
  ·cases h3
end
end
end
noncomputable section
open Go Go.Eng
section
variable{Γ:F7→I4→Code→Prop}{P:Program}{T:F7}{N G:Nat}{cal:N8}{all:List Oper}{lim:Nat}{R:Nat→Option VV}{W:Nat→Option (Nat×VO)}{plan:List PE}{ρ0:Loc}{D0:J8}{n0:Nat}{σ0 σfin:DS}
section
variable{pre suf:List PE}{σ:DS}{ρ:Loc}{s:Nat→Bool}{g:Fr}{i:Imm}{L:SH}
variable(C:Ctx Γ P T N G cal all lim R W plan ρ0 D0 n0 σ0 σfin)(H:HI T N G cal all lim R W plan ρ0 D0 σ0 σfin pre suf σ ρ s g i L)
include C H
theorem HI.lowA{a b:List PE}{p:PE}{o:Oper}(hab:suf=a++p::b)(hok:PEok all plan (pre++a) p o)(hanc:∀x∈p.anc,s x=true)(hk:3≤p.k):(∀q∈a,q.k≤2)∧∀q∈pre++a,q.k=2→q.j∈p.anc:=by
 refine⟨fun q hq=>?_,fun q hq h2=>?_⟩
 ·rcases Nat.lt_or_ge 2 q.k with h|h
  ·rcases hok.ch q (by simp[hq]) hk with h6|h6|⟨h6,_⟩
   ·have:=H.c2 q (by rw[hab];simp[hq]) h
    rw[hanc _ h6] at this;cases this
   ·omega
   ·omega
  ·exact h
 ·rcases hok.ch q hq hk with h6|h6|⟨h6,_⟩
  ·exact h6
  ·omega
  ·omega
theorem HI.chain{a b:List PE}{p:PE}{o:Oper}{σp:DS}{q:SR}(hab:suf=a++p::b)(hk:3≤p.k)(hsj:s p.j=false)(ho:all[p.j]?=some o)(hd:∀x∈A6n o,s x=true)
 (ht:Trc T N G cal all lim R W (pre++a) σ0 σp) (hs:Z3 T N G cal all lim p o (Y0 σp.f p.us) σp=some q) (hre:p.re.all (D8e T N G all (B4 o σp.f q).f q.hb)=true) (hv:R p.j=q.v) (hw:W p.j=q.w) (htb:Trc T N G cal all lim R W b (B4 o σp.f q) σfin)
 (hq:q.hb=q.h) (hqw:q.w=none) (hnn:σ.n≤q.n) {ρ':Loc} {i':Imm} {L':SH} {u:Value}
 (hx:Ext (DD D0 lim W plan pre σ s) ρ ρ') (hl:LayP ρ' (DD D0 lim W plan (pre++a++[p]) (B4 o σp.f q) (X5 s p.j)) (SS W b (B4 o σp.f q) (X5 s p.j)) i' L')
 (hlk:∀k fz vo,get k q.h=some (fz,vo)→DM D0 lim W (pre++a++[p]) (B4 o σp.f q) k∧vo.lt (DM D0 lim W (pre++a++[p]) (B4 o σp.f q)))
 (hval:∀v,q.v=some v→v.lt (DB D0 lim W plan (pre++a++[p]) (B4 o σp.f q) p)∧u=C2 ρ' v):
 HI T N G cal all lim R W plan ρ0 D0 σ0 σfin (pre++a++[p]) b (B4 o σp.f q) ρ' (X5 s p.j) (F3 g o.dst u) i' L':=by
 have hpl:plan=(pre++a)++p::b:=by rw[H.pl,hab];simp
 have hpp:p∈plan:=by rw[hpl];simp
 have hanc:=H.anc C hpp ho hd;obtain⟨o2,ho2,hok⟩:=C.hp _ p _ hpl;rw[ho] at ho2;cases ho2;obtain⟨hlow,hnew⟩:=H.lowA C hab hok hanc hk
 have hmono:(DM D0 lim W pre σ).le (DM D0 lim W (pre++a++[p]) (B4 o σp.f q)):=fun x hx=>by
  rcases hx with hx|hx|⟨y,hy,h⟩
  ·exact .inl hx
  ·exact .inr (.inl ⟨hx.1,Nat.lt_of_lt_of_le hx.2 hnn⟩)
  ·exact .inr (.inr ⟨y,by simp[hy],h⟩)
 have hmonoB:∀y,(DB D0 lim W plan pre σ y).le (DB D0 lim W plan (pre++a++[p]) (B4 o σp.f q) y):=fun y x hx=>hx.imp (fun hx=>hx.imp (hmono x) id) id
 have hpre:∀y∈pre++a,y.j≠p.j:=hok.ne
 refine⟨by rw[hpl];simp,ht.app (.cons ho hs hre hv hw (.nil _)),htb,hq,Nat.le_trans H.nn hnn,fun k o' hs' ho' x hx'=>?_,fun y hy h=>?_,fun y hy h=>?_,fun y hy h=>?_,fun y hy h1 h2 oy hoy=>?_,
  H.ex.trans hx fun x hx=>.inl (.inl hx),fun y hy hsy o' t v ho' hd' hR=>?_,fun t v hno hg=>?_,hl,hlk,fun y hy hsy k vo h=>?_⟩
 ·rcases U3 hs' with rfl|⟨_,hs'⟩
  ·rw[ho] at ho';cases ho';exact P4 (hd x hx')
  ·exact P4 (H.cl k o' hs' ho' x hx')
 ·simp only[E9r,List.mem_singleton] at hy;rcases hy with(hy|hy)|rfl
  ·exact P4 (H.c1 y hy h)
  ·have:=hlow y hy;omega
  ·exact U4 ..
 ·have hne:y.j≠p.j:=fun e=>by
   have h6:=C.inj (by rw[hpl];simp[hy]) hpp e;subst h6;obtain⟨b1,b2,hb⟩:=F0z hy;obtain⟨_,_,k2⟩:=C.hp (pre++a++y::b1) y b2 (by rw[hpl,hb];simp);exact k2.ne y (by simp) rfl
  rw[S9 _ hne];exact H.c2 y (by rw[hab];simp[hy]) h
 ·simp only[E9r,List.mem_singleton] at hy;rcases hy with hy|rfl
  ·exact P4 (hanc _ (hnew y (by simpa using hy) h))
  ·omega
 ·obtain⟨h3,h4⟩:=B8p h2
  have hy':y∈pre++a:=by
   simp only[E9r,List.mem_singleton] at hy⊢;rcases hy with hy|rfl
   ·exact hy
   ·exact absurd rfl h4
  rcases hok.ch y hy' hk with h6|h6|⟨_,h6⟩
  ·rw[hanc _ h6] at h3;cases h3
  ·omega
  ·have h7:=F0c.1 hre _ h6;unfold D8e at h7;rw[W5,hoy] at h7;simp only at h7;split at h7
   ·rename_i hg;refine .inl ⟨hg,?_⟩;split at h7
    ·rename_i d hdd;split at h7
     ·rename_i v hgv;split at h7
      ·rename_i v' hv';have e:=A7t _ _ h7;subst e;refine⟨v',by rw[hq] at hv';exact hv',fun w hw'=>?_⟩;have htt:Trc T N G cal all lim R W (pre++a++[p]) σ0 (B4 o σp.f q):=ht.app (.cons ho hs hre hv hw (.nil _));rcases htt.frame hgv with⟨z,hz,oz,k1,k2,k3⟩|⟨_,k2⟩
       ·have e:=B6x C.hdst (p:=z) (q:=y) (by rw[hpl];simp only[E9r,F0b,List.mem_singleton,List.not_mem_nil,or_false] at hz⊢;rcases hz with hz|hz<;>simp[hz]) (by rw[hpl];simp only[E9r,F0b];exact .inl (by simpa using hy')) k1 k2 hoy hdd;rw[e,hw'] at k3;exact Option.some.inj k3
       ·exact absurd hdd (k2 y (by simp only[E9r] at hy'⊢;exact .inl hy') oy hoy)
      ·cases h7
     ·cases h7
    ·cases h7
   ·rename_i hg;exact .inr hg
   ·cases h7
 ·rcases U3 hsy with e|⟨hne,hsy⟩
  ·have:=C.inj hy hpp e
   subst this;rw[ho] at ho';cases ho';obtain⟨h1,h2⟩:=hval v (by rw[←hv];exact hR);refine⟨h1,?_⟩;rw[hd',←h2];exact K2 ..
  ·obtain⟨h1,h2⟩:=H.sa y hy hsy o' t v ho' hd' hR;refine⟨VV.lt_mono (hmonoB y) v h1,?_⟩;have hdn:o.dst≠some t:=fun e=>hne (B6x C.hdst hy hpp ho' hd' ho e)
   rw[A9z hx v (VV.lt_mono (H.DB_le C hy hsy) v h1),←h2];cases hdo:o.dst with
   |none=>rfl
   |some d=>exact M8 _ _ fun e=>hdn (by rw[hdo,e])
 ·obtain⟨h1,h2⟩:=H.sb t v hno hg;refine⟨h1,?_⟩;rw[A9z hx v (VV.lt_mono (fun b hb=>.inl (.inl hb)) v h1),←h2];cases hdo:o.dst with
  |none=>rfl
  |some d=>exact M8 _ _ fun e=>hno p hpp o ho (by rw[hdo,e])
 ·rcases U3 hsy with e|⟨_,hsy⟩
  ·rw[e,hw,hqw] at h;cases h
  ·exact VO.lt_mono (hmonoB y) (H.lw y hy hsy k vo h)
theorem HI.extras:∀(b a:List PE),suf=a++b→∃X:List (Nat×Obj),(∀q∈b,s q.j=true→∀k vo,W q.j=some (k,vo)→∃ob,V3 ρ k vo ob∧(ρ.at_ k,ob)∈X)∧
 (∀x∈X,x∈L∧∃q∈b,s q.j=true∧∃k vo,W q.j=some (k,vo)∧x.1=ρ.at_ k)
 |[],_,_=>⟨[],fun q hq=>(by cases hq),fun x hx=>(by cases hx)⟩
 |p::b,a,e=>by
  obtain⟨X,h1,h2⟩:=HI.extras b (a++[p]) (by rw[e];simp);by_cases hc:s p.j=true∧∃k vo,W p.j=some (k,vo)
  ·obtain⟨hs,k,vo,hw⟩:=hc;obtain⟨_,_,ob,h3,h4⟩:=H.la.ok k false vo (.inr ⟨rfl,p,by rw[e];simp,hs,hw⟩);refine⟨(ρ.at_ k,ob)::X,fun q hq hsq k' vo' hw'=>?_,fun x hx=>?_⟩
   ·rcases F0b.1 hq with rfl|hq
    ·rw[hw] at hw';cases hw';exact⟨ob,h3,by simp⟩
    ·obtain⟨ob',h5,h6⟩:=h1 q hq hsq k' vo' hw';exact⟨ob',h5,E9u _ h6⟩
   ·rcases F0b.1 hx with rfl|hx
    ·exact⟨by simpa using h4,p,by simp,hs,k,vo,hw,rfl⟩
    ·obtain⟨h5,q,hq,h6⟩:=h2 x hx;exact⟨h5,q,E9u _ hq,h6⟩
  ·refine⟨X,fun q hq hsq k vo hw=>?_,fun x hx=>?_⟩
   ·rcases F0b.1 hq with rfl|hq
    ·exact absurd ⟨hsq,k,vo,hw⟩ hc
    ·exact h1 q hq hsq k vo hw
   ·obtain⟨h5,q,hq,h6⟩:=h2 x hx;exact⟨h5,q,E9u _ hq,h6⟩
theorem HI.sep{a b:List PE}{p:PE}(hpl:plan=(pre++a)++p::b){y z:PE}(hy:y∈pre++a)(hz:z∈b):y.j≠z.j:=by
 obtain⟨b1,b2,hb⟩:=F0z hz;obtain⟨_,_,k⟩:=C.hp (pre++a++p::b1) z b2 (by rw[hpl,hb];simp);exact k.ne y (by simp only[E9r] at hy⊢;exact .inl hy)
theorem HI.notA{a b:List PE}{p:PE}{o:Oper}(hpl:plan=(pre++a)++p::b)(hok:PEok all plan (pre++a) p o){z:PE}(hz:z∈b){k:Nat}{vo:VO}(hw:W z.j=some (k,vo)):¬DA D0 lim W plan pre σ p k∧k<lim:=by
 have hzp:z∈plan:=by rw[hpl];simp[hz]
 obtain⟨h3,_,h5,h6⟩:=C.ht.names.2 z hzp k vo hw;refine⟨?_,h5⟩
 rintro((h|h|⟨q,hq,vo',h⟩)|⟨q,hq,hj,vo',h⟩)
 ·have:=C.hD k h
  have:=C.r0
  omega
 ·omega
 ·have hqp:q∈plan:=by rw[H.pl];simp[hq]
  have e:=C.ht.namesInj q hqp z hzp k vo' vo h hw;exact H.sep C hpl (by simp[hq]) hz e
 ·have e:=C.ht.namesInj q hq z hzp k vo' vo h hw;obtain⟨y,hy,ey⟩:=hok.anc2 _ hj;exact H.sep C hpl hy hz (ey.trans e)
open Classical in
theorem HI.kind3{p:PE}(hpp:p∈plan)(hk:3≤p.k)(hsj:s p.j=false){o:Oper}(ho:all[p.j]?=some o)(hd:∀x∈A6n o,s x=true):D8m P T N G cal all lim R W plan ρ0 D0 σ0 σfin s g i L p.j o:=by
 have hanc:=H.anc C hpp ho hd;have hmem:=hpp;rw[H.pl,E9r] at hmem;rcases hmem with hm|hm
 ·rw[H.c1 p hm hk] at hsj;cases hsj
 obtain⟨a,b,hab⟩:=F0z hm;have hpl:plan=(pre++a)++p::b:=by rw[H.pl,hab];simp
 obtain⟨σp,o',q,h1,h1',h2,h3,h4,h5,hre,htb⟩:=H.splitS C hab;rw[ho] at h2;cases h2;obtain⟨o2,ho2,hok⟩:=C.hp _ p _ hpl;rw[ho] at ho2;cases ho2;obtain⟨hlow,hnew⟩:=H.lowA C hab hok hanc hk;obtain⟨hhb,hn,hheap⟩:=h1.low hlow;have hS:=H.slots C hpl hanc (a':=pre++a) (b':=p::b) hpl h1' fun q hq=>hq
 have newin:∀y∈a,∀k vo,W y.j=some (k,vo)→y.j∈p.anc:=fun y hy k vo hw=>hnew y (by simp[hy]) (C.ht.names.2 y (by rw[hpl];simp[hy]) k vo hw).2.2.2
 have hA:∀k fz vo,get k σp.h=some (fz,vo)→DA D0 lim W plan pre σ p k∧vo.lt (DA D0 lim W plan pre σ p)∧SS W suf σ s k fz vo:=fun k fz vo hk'=>by
  rcases hheap k fz vo hk' with h|⟨e,y,hy,h⟩
  ·obtain⟨k1,k2⟩:=H.lk k fz vo h;exact⟨.inl k1,VO.lt_mono (fun x hx=>.inl hx) k2,.inl h⟩
  ·have hya:=newin y hy k vo h;have hyp:y∈plan:=by rw[hpl];simp[hy]
   refine⟨.inr ⟨y,hyp,hya,vo,h⟩,VO.lt_mono ?_ (H.lw y hyp (hanc _ hya) k vo h),.inr ⟨e,y,by rw[hab];simp[hy],hanc _ hya,h⟩⟩;rintro x ((hx|⟨z,hz,hj,vo',hw⟩)|⟨vo',hw⟩)
   ·exact .inl hx
   ·exact .inr ⟨z,hz,hok.tr y (by simp[hy]) hya _ hj,vo',hw⟩
   ·exact .inr ⟨y,hyp,hya,vo',hw⟩
 have hAM:∀(σ':DS),σ.n≤σ'.n→(DA D0 lim W plan pre σ p).le (DM D0 lim W (pre++a++[p]) σ'):=fun σ' hσ x hx=>by
  rcases hx with(hx|hx|⟨y,hy,h⟩)|⟨y,hy,hj,h⟩
  ·exact .inl hx
  ·exact .inr (.inl ⟨hx.1,Nat.lt_of_lt_of_le hx.2 hσ⟩)
  ·exact .inr (.inr ⟨y,by simp[hy],h⟩)
  ·obtain⟨z,hz,ez⟩:=hok.anc2 _ hj;exact .inr (.inr ⟨z,by simp only[E9r] at hz⊢;exact .inl hz,by rw[ez];exact h⟩)
 have early:∀z∈b,X5 s p.j z.j=true→s z.j=true:=fun z hz hs=>by
  rcases U3 hs with e|⟨_,hs⟩
  ·exfalso
   have:=C.inj (by rw[hpl];simp[hz]) hpp e
   subst this;obtain⟨b1,b2,hb⟩:=F0z hz;obtain⟨_,_,k2⟩:=C.hp (pre++a++z::b1) z b2 (by rw[hpl,hb];simp);exact k2.ne z (by simp) rfl
  ·exact hs
 have hle:=H.DA_le C hanc;unfold Z3 at h3;have h3':=h3;split at h3
 ·
  rename_i hg;have hstep:Z3 T N G cal all lim p o (Y0 σp.f p.us) σp=some q:=by unfold Z3;exact h3'
  split at h3
  ·omega
  ·omega
  ·omega
  cases h3;refine .inr ⟨A1k hS hg,_,b,_,ρ,H.chain C hab hk hsj ho hd h1' hstep hre h4 h5 htb rfl rfl (by rw[hn];exact E9q _) (Ext.refl _ _) ?_ ?_ fun v hv=>by cases hv;simp[VV.lt,C5,C2,C3,undef]⟩
  ·refine(H.la.mono ?_).sub ?_
   ·rintro x (hx|⟨y,hy,hs,h⟩)
    ·exact .inl (hAM _ (by simp only[B4];rw[hn];exact E9q _) x (.inl hx))
    ·exact .inr ⟨y,hy,P4 hs,h⟩
   ·rintro k fz vo (h|⟨e,y,hy,hs,h⟩)
    ·exact(hA k fz vo h).2.2
    ·exact .inr ⟨e,y,by rw[hab];simp[hy],early y hy hs,h⟩
  ·intro k fz vo h
   have:=hA k fz vo h
   have hm:=hAM (B4 o σp.f ⟨some (.tup []),none,σp.h,σp.h,σp.n,σp.r⟩) (by simp only[B4];rw[hn];exact E9q _);exact⟨hm _ this.1,VO.lt_mono hm this.2.1⟩
 ·rename_i hg;have hstep:Z3 T N G cal all lim p o (Y0 σp.f p.us) σp=some q:=by unfold Z3;exact h3'
  split at h3
  ·omega
  ·omega
  ·omega
  split at h3
  ·rename_i e he;cases h3;obtain⟨X,hX1,hX2⟩:=H.extras C (p::b) a hab;obtain⟨ρ1,hρ1⟩:∃ρ1:Loc,ρ1=⟨ρ.at_,ρ.cap,ρ.keep++X,ρ.good⟩:=⟨_,rfl⟩;have x01:∀D:J8,Ext0 D ρ ρ1:=fun D=>by subst hρ1;exact⟨fun _ _=>rfl,fun _ _=>rfl,rfl⟩
   have hS1:G5 ρ1 (DA D0 lim W plan pre σ p) (Y0 σp.f p.us) g:=fun t v hv=>⟨(hS t v hv).1,by rw[S4 (x01 _) v (hS t v hv).1];exact(hS t v hv).2⟩
   have hG1:Glob Γ ρ1 (DA D0 lim W plan pre σ p) G:=⟨by subst hρ1;exact(H.globA C (p:=p)).gd,(H.globA C (p:=p)).le,by subst hρ1;exact(H.globA C (p:=p)).at_⟩
   have notp:∀z∈p::b,∀k vo,W z.j=some (k,vo)→z∈b:=fun z hz k vo hw=>by
    rcases F0b.1 hz with rfl|hz
    ·rw[h5] at hw;cases hw
    ·exact hz
   have hL1:X7 ρ1 (DA D0 lim W plan pre σ p) σp.h i L:=by
    refine⟨fun k fz vo hk'=>?_,fun k k' vo vo' hk1 hk2 e=>?_,fun x hx=>?_⟩
    ·obtain⟨k1,k2,k3⟩:=hA k fz vo hk';obtain⟨_,_,ob,k4,k5⟩:=H.la.ok k fz vo k3;refine⟨k1,k2,ob,k4.ext0 (x01 _) k1 k2,?_⟩;subst hρ1;exact k5
    ·refine H.la.inj k k' vo vo' (hA k _ _ hk1).2.2 (hA k' _ _ hk2).2.2 ?_;subst hρ1;exact e
    ·have hx':x∈ρ.keep++X:=by subst hρ1;exact hx
     rcases E9r.1 hx' with hx'|hx'
     ·refine⟨(H.la.frm x hx').1,fun k vo hk' e=>(H.la.frm x hx').2 k vo (hA k _ _ hk').2.2 ?_⟩;subst hρ1;exact e
     ·obtain⟨k1,z,hz,hsz,k',vo',hw,ek⟩:=hX2 x hx';refine⟨k1,fun k vo hk' e=>?_⟩;have e':ρ.at_ k=ρ.at_ k':=by rw[←ek];subst hρ1;exact e
      have e2:=H.la.inj k k' vo vo' (hA k _ _ hk').2.2 (.inr ⟨rfl,z,by rw[hab];simp only[E9r];exact .inr hz,hsz,hw⟩) e';rw[e2] at hk';exact(H.notA C hpl hok (notp z hz _ _ hw) hw).1 (hA k' _ _ hk').1
   have hD1:X2 (DA D0 lim W plan pre σ p) σp.n:=fun x hx=>by
    rw[hn];have nm:∀y∈plan,∀vo,W y.j=some (x,vo)→x<σ.n:=fun y hy vo hw=>Nat.lt_of_lt_of_le (C.ht.names.2 y hy x vo hw).2.2.1 H.nn
    rcases hx with(hx|hx|⟨y,hy,vo,h⟩)|⟨y,hy,hj,vo,h⟩
    ·have:=C.hD x hx
     have:=C.hn
     have:=H.nn
     omega
    ·exact hx.2
    ·exact nm y (by rw[H.pl];simp[hy]) vo h
    ·exact nm y hy vo h
   refine .inl ⟨A1k hS hg,P3.mono (D6k C.hT C.hcal hS1 hG1 hL1 hD1 he) ?_⟩;rintro u i' L' _ ⟨ρ',hE,hnn,hL',hvv⟩;obtain⟨D1,hD1e⟩:∃D1:J8,D1=(DA D0 lim W plan pre σ p).upto σp.n e.n:=⟨_,rfl⟩;rw[←hD1e] at hL' hvv;have hDA1:(DA D0 lim W plan pre σ p).le D1:=by rw[hD1e];exact fun x hx=>Or.inl hx
   have hD1M:D1.le (DM D0 lim W (pre++a++[p]) (B4 o σp.f ⟨e.v,none,e.h,e.h,e.n,σp.r⟩)):=by
    rw[hD1e];rintro x (hx|hx)
    ·exact hAM _ (by simp only[B4];omega) x hx
    ·refine .inr (.inl ⟨?_,hx.2⟩)
     have:=H.nn
     have:=hx.1
     omega
   obtain⟨ρ2,hρ2⟩:∃ρ2:Loc,ρ2=⟨fun x=>if D1 x then ρ'.at_ x else ρ.at_ x,fun x=>if D1 x then ρ'.cap x else ρ.cap x,ρ.keep,ρ.good⟩:=⟨_,rfl⟩;have x12:Ext0 D1 ρ' ρ2:=by subst hρ2;exact⟨fun x hx=>by simp[hx],fun x hx=>by simp[hx],by rw[hE.good,hρ1]⟩
   have hkeep:ρ'.keep=ρ.keep++X:=by rw[hE.keep,hρ1]
   have nmn:∀y∈plan,∀x vo,W y.j=some (x,vo)→x<σp.n:=fun y hy x vo hw=>by
    have:=(C.ht.names.2 y hy x vo hw).2.2.1
    have:=H.nn
    omega
   have hDDn:∀x,DD D0 lim W plan pre σ s x→x<σp.n:=fun x hx=>by
    rcases hx with hx|⟨y,hy,hj,vo,h⟩
    ·exact hD1 x (.inl hx)
    ·exact nmn y hy x vo h
   have x02:Ext0 (DD D0 lim W plan pre σ s) ρ ρ2:=by
    have key:∀x,DD D0 lim W plan pre σ s x→D1 x→DA D0 lim W plan pre σ p x:=fun x hx h=>by
     rw[hD1e] at h;rcases h with h|h
     ·exact h
     ·have:=hDDn x hx;omega
    refine⟨fun x hx=>?_,fun x hx=>?_,by rw[hρ2]⟩
    ·rw[hρ2];by_cases h:D1 x
     ·simp only[h,if_true];rw[hE.at_ x (key x hx h),hρ1]
     ·simp only[h,if_false]
    ·rw[hρ2];by_cases h:D1 x
     ·simp only[h,if_true];rw[hE.cap x (key x hx h),hρ1]
     ·simp only[h,if_false]
   have notD1:∀z∈b,∀k vo,W z.j=some (k,vo)→¬D1 k:=fun z hz k vo hw h=>by
    obtain⟨k1,k2⟩:=H.notA C hpl hok hz hw;rw[hD1e] at h;rcases h with h|h
    ·exact k1 h
    ·have:=nmn z (by rw[hpl];simp[hz]) k vo hw
     omega
   have at2:∀z∈b,∀k vo,W z.j=some (k,vo)→ρ2.at_ k=ρ.at_ k:=fun z hz k vo hw=>by
    rw[hρ2];simp only[notD1 z hz k vo hw,if_false]
   have at1:∀k,D1 k→ρ2.at_ k=ρ'.at_ k:=x12.at_;refine⟨_,b,_,ρ2,H.chain C hab hk hsj ho hd h1' hstep hre h4 h5 htb rfl rfl (by simp only;omega) ⟨x02,by rw[hρ2]⟩ ?_ ?_ fun v hv=>?_⟩
   ·refine⟨fun k fz vo hk'=>?_,fun k k' vo vo' hk1 hk2 e'=>?_,fun x hx=>?_⟩
    ·rcases hk' with hk'|⟨rfl,z,hz,hsz,hw⟩
     ·obtain⟨k1,k2,ob,k3,k4⟩:=hL'.ok k fz vo hk';refine⟨.inl (hD1M _ k1),VO.lt_mono (fun x hx=>.inl (hD1M x hx)) k2,ob,k3.ext0 x12 k1 k2,?_⟩;rw[at1 k k1];exact k4
     ·have hsz':=early z hz hsz;have hzs:z∈suf:=by rw[hab];simp[hz]
      have hzp:z∈plan:=by rw[hpl];simp[hz]
      obtain⟨ob,k3,k4⟩:=hX1 z (E9u _ hz) hsz' k vo hw;obtain⟨k1,k2,_⟩:=H.la.ok k false vo (.inr ⟨rfl,z,hzs,hsz',hw⟩);refine⟨.inr ⟨z,hzp,hsz,vo,hw⟩,VO.lt_mono ?_ k2,ob,k3.ext0 x02 k1 k2,?_⟩
      ·rintro x (hx|⟨y,hy,hs,h⟩)
       ·exact .inl (hD1M _ (hDA1 _ (.inl hx)))
       ·exact .inr ⟨y,hy,P4 hs,h⟩
      ·rw[at2 z hz k vo hw]
       have:=(hL'.frm (ρ.at_ k,ob) (by rw[hkeep];exact List.mem_append_right _ k4)).1
       simpa using this
    ·have cross:∀k vo k' vo',get k e.h=some (false,vo)→(∃z∈b,X5 s p.j z.j=true∧W z.j=some (k',vo'))→ρ2.at_ k≠ρ2.at_ k':=by
      rintro k vo k' vo' hk1 ⟨z,hz,hsz,hw⟩ e';obtain⟨ob,_,k4⟩:=hX1 z (E9u _ hz) (early z hz hsz) k' vo' hw
      have:=(hL'.frm (ρ.at_ k',ob) (by rw[hkeep];exact List.mem_append_right _ k4)).2 k vo hk1
      rw[at1 k (hL'.ok _ _ _ hk1).1,at2 z hz k' vo' hw] at e';exact this e'
     rcases hk1 with hk1|⟨_,z,hz,hsz,hw⟩<;>rcases hk2 with hk2|⟨_,z',hz',hsz',hw'⟩
     ·rw[at1 k (hL'.ok _ _ _ hk1).1,at1 k' (hL'.ok _ _ _ hk2).1] at e';exact hL'.inj k k' vo vo' hk1 hk2 e'
     ·exact absurd e' (cross k vo k' vo' hk1 ⟨z',hz',hsz',hw'⟩)
     ·exact absurd e'.symm (cross k' vo' k vo hk2 ⟨z,hz,hsz,hw⟩)
     ·rw[at2 z hz k vo hw,at2 z' hz' k' vo' hw'] at e';exact H.la.inj k k' vo vo' (.inr ⟨rfl,z,by rw[hab];simp[hz],early z hz hsz,hw⟩) (.inr ⟨rfl,z',by rw[hab];simp[hz'],early z' hz' hsz',hw'⟩) e'
    ·have hx':x∈ρ.keep:=by rw[hρ2] at hx;exact hx
     have hfr:=hL'.frm x (by rw[hkeep];exact F1p _ hx');refine⟨hfr.1,fun k vo hk'=>?_⟩;rcases hk' with hk'|⟨_,z,hz,hsz,hw⟩
     ·rw[at1 k (hL'.ok _ _ _ hk').1];exact hfr.2 k vo hk'
     ·rw[at2 z hz k vo hw];exact(H.la.frm x hx').2 k vo (.inr ⟨rfl,z,by rw[hab];simp[hz],early z hz hsz,hw⟩)
   ·intro k fz vo h;obtain⟨k1,k2,_⟩:=hL'.ok k fz vo h;exact⟨hD1M _ k1,VO.lt_mono hD1M k2⟩
   ·obtain⟨k1,k2⟩:=hvv v hv;exact⟨VV.lt_mono (fun x hx=>.inl (.inl (hD1M x hx))) v k1,by rw[S4 x12 v k1];exact k2⟩
  ·cases h3
 ·cases h3
end
theorem evD_ok(hm:P.follows .mixedOrders=true)(hT:T.ok P)(hcal:CalOk P Γ G cal){tail:List Nat}{tops:List Oper}(hok:C2r all plan tail=true)(htops:A6x all tail=some tops){ρ:Loc}{D:J8}{n:Nat}{f:Tr VV}{h:VH}{fr:Fr}{i:Imm}{L:SH}{id:Nat}{s':DS}{s2:Tr VV×VH×Nat}
 (hS:G5 ρ D f fr) (hG:Glob Γ ρ D G) (hL:X7 ρ D h i L) (hD:X2 D n) (hn:n≤lim) (he:evD T N G cal all lim plan ⟨f,h,h,lim,n⟩=some s') (he2:B6a T N G cal all tops s'.f s'.h s'.n=some s2):
 CS P N (.region id all.toArray true) fr i L (fun e fr' i' L'=>e=.normal∧Aft ρ D n s2 fr' i' L'):=by
 unfold C2r at hok;simp only[E9j] at hok;obtain⟨⟨hrg,hpe⟩,hdst⟩:=hok
 have hp:∀a p b,plan=a++p::b→∃o,all[p.j]?=some o∧PEok all plan a p o:=fun a p b e=>by
  simpa using C8q hpe a p b e
 have hnd:(plan.map (·.j)).Nodup:=by
  have:∀(l a:List PE),plan=a++l→(l.map (·.j)).Nodup:=by
   intro l;induction l with
   |nil=>intro _ _;simp
   |cons x l ih=>
    intro a e;refine List.nodup_cons.2 ⟨fun hin=>?_,ih (a++[x]) (by rw[e];simp)⟩;obtain⟨y,hy,ey⟩:=F1k.1 hin;obtain⟨b1,b2,hb⟩:=F0z hy;obtain⟨_,_,k⟩:=hp (a++x::b1) y b2 (by rw[e,hb];simp);exact k.ne x (by simp) ey.symm
  exact this plan [] rfl
 obtain⟨R,W,ht⟩:=D6n plan _ s' hnd he;have C:Ctx Γ P T N G cal all lim R W plan ρ D n ⟨f,h,h,lim,n⟩ s':=⟨hT,hcal,hp,hdst,ht,hG,hD,hn,rfl⟩;refine B2v hm (plan.map (·.j)) tail hrg htops (HH T N G cal all lim R W plan ρ D ⟨f,h,h,lim,n⟩ s') ?_ ?_ ?_
 ·refine⟨[],plan,⟨f,h,h,lim,n⟩,ρ,⟨rfl,.nil _,ht,rfl,E9q _,fun k o hs=>(by cases hs),fun q hq=>(by cases hq),fun _ _ _=>rfl,fun q hq=>(by cases hq),fun q hq=>(by cases hq),Ext.refl _ _,fun q hq hs=>(by cases hs),fun t v _ hg=>hS t v hg,?_,?_,fun q hq hs=>(by cases hs)⟩⟩
  ·refine(hL.mono fun x hx=>.inl (.inl hx)).sub ?_
   rintro k fz vo (h|⟨_,q,_,hs,_⟩)
   ·exact h
   ·cases hs
  ·intro k fz vo hk;obtain⟨h1,h2,_⟩:=hL.ok k fz vo hk;exact⟨.inl h1,VO.lt_mono (fun x hx=>.inl hx) h2⟩
 ·intro j hj o ho s hs hd g i' L' _ hH;obtain⟨pre,suf,σ,ρ',H⟩:=hH;obtain⟨p,hpp,rfl⟩:=F1k.1 hj
  have hd':∀x∈A6n o,s x=true:=fun x hx=>by
   obtain⟨e,he,hb,rfl⟩:=E5n.1 hx;exact hd e he hb
  have hk:p.k=0∨p.k=1∨p.k=2∨3≤p.k:=by omega
  have main:D8m P T N G cal all lim R W plan ρ D ⟨f,h,h,lim,n⟩ s' s g i' L' p.j o:=by
   rcases hk with hk|hk|hk|hk
   ·exact H.kind0 C hpp hk hs ho hd'
   ·exact H.kind1 C hpp hk hs ho hd'
   ·exact H.kind2 C hpp hk hs ho hd'
   ·exact H.kind3 C hpp hk hs ho hd'
  exact main
 ·intro g i' L' _ hH;obtain⟨pre,suf,σ,ρ',H⟩:=hH;have hall:∀p∈plan,((plan.map (·.j)).contains p.j)=true:=fun p hp=>by simp;exact⟨p,hp,rfl⟩
  have hlow:∀q∈suf,q.k≤2:=fun q hq=>by
   rcases Nat.lt_or_ge 2 q.k with hk|hk
   ·have h1:=H.c2 q hq hk;rw[hall q (by rw[H.pl];simp[hq])] at h1;cases h1
   ·exact hk
  obtain⟨_,hn2,hheap⟩:=H.t2.low hlow
  have hDn:(DD D lim W plan pre σ fun k=>(plan.map (·.j)).contains k).le (D.upto n s'.n):=by
   have nm:∀y∈plan,∀x vo,W y.j=some (x,vo)→n≤x∧x<s'.n:=fun y hy x vo hw=>by
    have:=ht.names.2 y hy x vo hw
    have:=H.nn
    simp only at*;omega
   rintro x ((hx|hx|⟨y,hy,vo,hw⟩)|⟨y,hy,_,vo,hw⟩)
   ·exact .inl hx
   ·exact .inr ⟨by omega,by rw[hn2];exact hx.2⟩
   ·exact .inr (nm y (by rw[H.pl];simp[hy]) x vo hw)
   ·exact .inr (nm y hy x vo hw)
  have hle:n≤s'.n:=by rw[hn2];have:=H.nn;omega
  have hSf:G5 ρ' (D.upto n s'.n) s'.f g:=by
   intro t v hg;rcases ht.frame hg with⟨q,hq,oq,h1,h2,h3⟩|⟨h1,h2⟩
   ·obtain⟨h4,h5⟩:=H.sa q hq (hall q hq) oq t v h1 h2 h3;exact⟨VV.lt_mono (fun x hx=>hDn x (H.DB_le C hq (hall q hq) x hx)) v h4,h5⟩
   ·obtain⟨h4,h5⟩:=H.sb t v h2 h1;exact⟨VV.lt_mono (fun x hx=>.inl hx) v h4,h5⟩
  have hLf:X7 ρ' (D.upto n s'.n) s'.h i' L':=by
   refine(H.la.mono hDn).sub ?_
   intro k fz vo hk;rcases hheap k fz vo hk with hk|⟨e,q,hq,hw⟩
   ·exact .inl hk
   ·exact .inr ⟨e,q,hq,hall q (by rw[H.pl];simp[hq]),hw⟩
  exact B8a (B0q hT hcal hSf (hG.ext H.ex (D.le_upto n s'.n)) hLf (hD.upto hle) he2) fun fr' i'' L'' k=>⟨rfl,k.step H.ex hle⟩
end
end
noncomputable section
open Go Go.Eng
section
variable{P:Program}{b:Frame}{a:Act}{k:List Item}{cs:List Frame}{w:World}{Q:Exit→Act→World→Prop}{F:Fence}{n:Nat}
theorem X3{c:Code}:step P (lone (b.atR a (.code (.scope c)::k)) cs w)=.next (lone (b.atR a (.code c:: .inScope c::k)) cs w):=
 step_lone_go (by simp[stepG,stepG.exec,Frame.atR])
theorem B9z{c:Code}:step P (lone (b.atR a (.inScope c::k)) cs w)=.next (lone (b.atR a k) cs w):=
 step_lone_go (by simp[stepG,stepG.exec,Frame.atR])
theorem A8k{c:Code}(h:c.wpIn F n P (Exit.noGoto Q) a w):(Code.scope c).wpIn F n P Q a w:=by
 intro b k cs hro hb hr;have h0:(lone (b.atR a (.code (.scope c)::k)) cs w).fenced P F:=fenced_calm hb hr rfl;obtain⟨e,a₁,w₁,hq,harr⟩:=h b (.inScope c::k) cs hro hb hr;cases e with
 |normal=>exact⟨.normal,a₁,w₁,hq,.head h0 X3 (StepsIn.trans harr (.one (fenced_calm hb hr rfl) B9z))⟩
 |exit id=>
  have hx:exitTo id (.inScope c::k)=exitTo id k:=by simp[exitTo]
  exact⟨.exit id,a₁,w₁,hq,fun k' hk=>.head h0 X3 (harr.1 k' (by rw[hx];exact hk)),
   fun hr' hk=>let⟨k₁,h1,h2⟩:=harr.2 hr' (by rw[hx];exact hk);⟨k₁,h1,.head h0 X3 h2⟩⟩
 |goto l=>exact hq.elim
 |ret=>exact⟨_,a₁,w₁,hq,.of_steps (.one h0 X3) harr⟩
 |panic ch=>exact⟨_,a₁,w₁,hq,.of_steps (.one h0 X3) harr⟩
 |outgrown=>exact⟨_,a₁,w₁,hq,.of_steps (.one h0 X3) harr⟩
end
@[irreducible] def CM(P:Program)(F:Fence)(n:Nat)(c:Code)(f:Fr)(i:Imm)(L:SH)(Q:List Nat→Ex→Fr→Imm→SH→Prop):Prop:=
 ∀ds w,St i L w→∀R:Exit→Act→World→Prop,(∀rs e f' i' L' w',i.le i'→St i' L' w'→Q rs e f' i' L'→R e.to (ofD n (rs.map A6e++ds) f') w')→c.wpIn F 0 P R (ofD n ds f) w
section
variable{P:Program}{F:Fence}{n:Nat}{c x y:Code}{f:Fr}{i:Imm}{L:SH}{Q Q':List Nat→Ex→Fr→Imm→SH→Prop}
theorem CM.use(h:CM P F n c f i L Q)(ds:List Deferred)(w:World)(hw:St i L w)(R:Exit→Act→World→Prop)(hR:∀rs e f' i' L' w',i.le i'→St i' L' w'→Q rs e f' i' L'→R e.to (ofD n (rs.map A6e++ds) f') w'):c.wpIn F 0 P R (ofD n ds f) w:=by
 unfold CM at h;exact h ds w hw R hR
theorem CM.of(hF:Wd F)(h:CS P n c f i L (Q [])):CM P F n c f i L Q:=by
 unfold CM;intro ds w hw R hR;exact h.use hF ds w hw R fun e f' i' L' w' hi hs q=>hR [] e f' i' L' w' hi hs q
theorem CM.mono(h:CM P F n c f i L Q)(hq:∀rs e f' i' L',i.le i'→Q rs e f' i' L'→Q' rs e f' i' L'):CM P F n c f i L Q':=by
 unfold CM at*;intro ds w hw R hR;exact h ds w hw R fun rs e f' i' L' w' hi hs q=>hR rs e f' i' L' w' hi hs (hq rs e f' i' L' hi q)
theorem CM.seq(h:CM P F n x f i L fun rs=>Q5 (fun f' i' L'=>CM P F n y f' i' L' fun rs'=>Q (rs'++rs)) (Q rs)):CM P F n (.seq x y) f i L Q:=by
 unfold CM;intro ds w hw R hR;refine wpIn_seq (h.use ds w hw _ fun rs e f' i' L' w' hi hs q=>?_);unfold Q5 at q;cases e with
 |normal=>
  simp only[Ex.to,Exit.then];simp only at q
  exact q.use (rs.map A6e++ds) w' hs R fun rs' e f'' i'' L'' w'' hi' hs' q'=>by
   have:=hR (rs'++rs) e f'' i'' L'' w'' (hi.trans hi') hs' q'
   rw[List.map_append,F0p] at this;exact this
 |exit id=>exact hR rs (.exit id) f' i' L' w' hi hs q
 |ret=>exact hR rs .ret f' i' L' w' hi hs q
theorem CM.cond_true{cnd:Operand}(hc:ev n f cnd=.bool true)(h:CM P F n x f i L Q):CM P F n (.cond cnd x y) f i L Q:=by
 unfold CM at*;intro ds w hw R hR;exact wpIn_cond_true (by rw[V7];exact hc) (h ds w hw R hR)
theorem CM.cond_false{cnd:Operand}(hc:ev n f cnd=.bool false)(h:CM P F n y f i L Q):CM P F n (.cond cnd x y) f i L Q:=by
 unfold CM at*;intro ds w hw R hR;exact wpIn_cond_false (by rw[V7];exact hc) (h ds w hw R hR)
theorem CM.block{id:Nat}(h:CM P F n x f i L fun rs=>A6f id (fun f' i' L'=>Q rs .normal f' i' L') (Q rs)):CM P F n (.block id x) f i L Q:=by
 unfold CM;intro ds w hw R hR;refine wpIn_block (h.use ds w hw _ fun rs e f' i' L' w' hi hs q=>?_);unfold A6f at q;cases e with
 |normal=>exact hR rs .normal f' i' L' w' hi hs q
 |ret=>exact hR rs .ret f' i' L' w' hi hs q
 |exit j=>
  simp only[Ex.to,Exit.inBlock];simp only at q;split at q
  ·rename_i e;rw[if_pos e];exact hR rs .normal f' i' L' w' hi hs q
  ·rename_i e;rw[if_neg e];exact hR rs (.exit j) f' i' L' w' hi hs q
theorem E8v{l:Nat}(hF:Wd F)(h:Q [] .normal f i L):CM P F n (.label l) f i L Q:=by
 unfold CM;intro ds w hw R hR;exact wpIn_label (hR [] .normal f i L w (Imm.le.refl i) hw h)
theorem CM.scope(h:CM P F n x f i L Q):CM P F n (.scope x) f i L Q:=by
 unfold CM;intro ds w hw R hR;refine A8k (h.use ds w hw _ fun rs e f' i' L' w' hi hs q=>?_);cases e with
 |normal=>exact hR rs .normal f' i' L' w' hi hs q
 |exit id=>exact hR rs (.exit id) f' i' L' w' hi hs q
 |ret=>exact hR rs .ret f' i' L' w' hi hs q
theorem E8u(I:Nat→List Nat→Fr→Imm→SH→Prop)(m0:Nat)(h0:I m0 [] f i L)
 (round:∀m rs g i' L',i.le i'→I m rs g i' L'→CM P F n c g i' L' fun rs'=>Q5 (fun f'' i'' L''=>∃m',m'<m∧I m' (rs'++rs) f'' i'' L'') (Q (rs'++rs))):CM P F n (.loop c) f i L Q:=by
 unfold CM;intro ds w hw R hR;refine A6c (fun m a w=>∃rs f' i' L',a=ofD n (rs.map A6e++ds) f'∧i.le i'∧St i' L' w∧I m rs f' i' L') m0 ⟨[],f,i,L,rfl,Imm.le.refl i,hw,h0⟩ ?_;rintro m a w1 ⟨rs,f',i',L',rfl,hi,hs,hI⟩
 refine(round m rs f' i' L' hi hI).use (rs.map A6e++ds) w1 hs _ fun rs' e f'' i'' L'' w'' hi' hs' q=>?_
 have e1:rs'.map A6e++(rs.map A6e++ds)=(rs'++rs).map A6e++ds:=by rw[List.map_append,F0p]
 rw[e1];unfold Q5 at q;cases e with
 |normal=>
  obtain⟨m',hm,hI'⟩:=q;exact⟨m',hm,rs'++rs,f'',i'',L'',rfl,hi.trans hi',hs',hI'⟩
 |exit id=>exact hR (rs'++rs) (.exit id) f'' i'' L'' w'' (hi.trans hi') hs' q
 |ret=>exact hR (rs'++rs) .ret f'' i'' L'' w'' (hi.trans hi') hs' q
end
section
variable{ρ:Loc}{D:J8}{S:Nat→Bool→VO→Prop}{i:Imm}{L:SH}
def Loc.wk(ρ:Loc)(K:List (Nat×Obj)):Loc:=⟨ρ.at_,ρ.cap,K,ρ.good⟩
theorem Loc.wk_ext(ρ:Loc)(K:List (Nat×Obj))(D:J8):Ext0 D ρ (ρ.wk K):=⟨fun _ _=>rfl,fun _ _=>rfl,rfl⟩
theorem LayP.wk(h:LayP ρ D S i L)(K:List (Nat×Obj))(hK:∀p∈K,p∈L∧∀k vo,S k false vo→ρ.at_ k≠p.1):LayP (ρ.wk K) D S i L:=
 ⟨fun k fz vo hk=>let⟨a,b,o,c,d⟩:=h.ok k fz vo hk;⟨a,b,o,c.ext0 (ρ.wk_ext K D) a b,d⟩,h.inj,hK⟩
theorem LayP.more(h:LayP ρ D S i L){L':SH}(hL:∀p∈L,p∈L'):LayP ρ D S i L':=
 ⟨fun k fz vo hk=>by
  obtain⟨a,b,o,c,d⟩:=h.ok k fz vo hk;refine⟨a,b,o,c,?_⟩;split at d
  ·rename_i hf;rw[if_pos hf];exact d
  ·rename_i hf;rw[if_neg hf];exact hL _ d,h.inj,fun p hp=>⟨hL _ (h.frm p hp).1,(h.frm p hp).2⟩⟩
structure Marks(ρ:Loc)(S:Nat→Bool→VO→Prop)(rs:List Nat)(L:SH):Prop where
 nd:rs.Nodup
 own:∀r∈rs,X6 r∈L
 off:∀r∈rs,∀k vo,S k false vo→ρ.at_ k≠r
 kp:∀r∈rs,∀p∈ρ.keep,p.1≠r
theorem Marks.nil:Marks ρ S [] L:=⟨List.nodup_nil,fun _ h=>(by cases h),fun _ h=>(by cases h),fun _ h=>(by cases h)⟩
def C5r(ρ:Loc)(D:J8)(n:Nat)(s:Tr VV×VH×Nat)(rs:List Nat)(fr':Fr)(i':Imm)(L':SH):Prop:=
 ∃ρ',Ext D ρ ρ'∧n≤s.2.2∧G5 ρ' (D.upto n s.2.2) s.1 fr'∧X7 ρ' (D.upto n s.2.2) s.2.1 i' L'∧Marks ρ' (fun k fz vo=>get k s.2.1=some (fz,vo)) rs L'
theorem Aft.toM{n:Nat}{s:Tr VV×VH×Nat}{fr':Fr}{i':Imm}{L':SH}(h:Aft ρ D n s fr' i' L'):C5r ρ D n s [] fr' i' L':=by
 obtain⟨ρ',h1,h2,h3,h4⟩:=h;exact⟨ρ',h1,h2,h3,h4,Marks.nil⟩
def kpm(ρ:Loc)(rs:List Nat):List (Nat×Obj):=ρ.keep++rs.map X6
theorem X7.kpm(h:LayP ρ D S i L){rs:List Nat}(hm:Marks ρ S rs L):LayP (ρ.wk (Ev.kpm ρ rs)) D S i L:=by
 refine h.wk _ fun p hp=>?_
 rcases E9r.1 hp with hp|hp
 ·exact h.frm p hp
 ·obtain⟨r,hr,rfl⟩:=F1k.1 hp;exact⟨hm.own r hr,hm.off r hr⟩
theorem G5.wk{f:Tr VV}{fr:Fr}(h:G5 ρ D f fr)(K:List (Nat×Obj)):G5 (ρ.wk K) D f fr:=fun t v hv=>⟨(h t v hv).1,by rw[S4 (ρ.wk_ext K D) v (h t v hv).1];exact(h t v hv).2⟩
theorem Glob.wk{Γ:F7→I4→Code→Prop}{G:Nat}(h:Glob Γ ρ D G)(K:List (Nat×Obj)):Glob Γ (ρ.wk K) D G:=⟨h.gd,h.le,h.at_⟩
theorem C5r.step{ρ':Loc}{n m:Nat}{s:Tr VV×VH×Nat}{S':Nat→Bool→VO→Prop}{rs rs':List Nat}{fr':Fr}{i':Imm}{L0 L':SH}(h:C5r (ρ'.wk (kpm ρ' rs)) (D.upto n m) m s rs' fr' i' L')(hm0:Marks ρ' S' rs L0)(e:Ext D ρ ρ')(hm:n≤m):C5r ρ D n s (rs'++rs) fr' i' L':=by
 obtain⟨ρ2,h1,h2,h3,h4,h5⟩:=h;have hk:ρ2.keep=ρ'.keep++rs.map X6:=h1.keep;have inM:∀r∈rs,X6 r∈ρ2.keep:=fun r hr=>by rw[hk];exact List.mem_append_right _ (F1k.2 ⟨r,hr,rfl⟩)
 have e2:Ext D ρ (ρ2.wk ρ.keep):=by
  have e3:Ext0 D ρ' ρ2:=⟨fun b hb=>h1.at_ b (D.le_upto n m b hb),fun b hb=>h1.cap b (D.le_upto n m b hb),h1.good⟩;exact⟨⟨fun b hb=>(e3.at_ b hb).trans (e.at_ b hb),fun b hb=>(e3.cap b hb).trans (e.cap b hb),e3.good.trans e.good⟩,rfl⟩
 refine⟨ρ2.wk ρ.keep,e2,Nat.le_trans hm h2,(h3.mono (A4c hm h2)).wk _,?_,?_⟩
 ·refine(h4.mono (A4c hm h2)).wk _ fun p hp=>h4.frm p ?_
  rw[hk];exact F1p _ (by rw[e.keep];exact hp)
 ·refine⟨List.nodup_append.2 ⟨h5.nd,hm0.nd,fun a ha b hb e=>?_⟩,fun r hr=>?_,fun r hr=>?_,fun r hr p hp=>?_⟩
  ·subst e;exact h5.kp a ha (X6 a) (inM a hb) rfl
  ·rcases E9r.1 hr with hr|hr
   ·exact h5.own r hr
   ·exact(h4.frm _ (inM r hr)).1
  ·rcases E9r.1 hr with hr|hr
   ·exact h5.off r hr
   ·exact(h4.frm _ (inM r hr)).2
  ·have hp':p∈ρ.keep:=hp;rcases E9r.1 hr with hr|hr
   ·exact h5.kp r hr p (by rw[hk];exact F1p _ (by rw[e.keep];exact hp'))
   ·exact hm0.kp r hr p (by rw[e.keep];exact hp')
theorem D9g{h:VH}(hL:X7 ρ D h i L){k j:Nat}{vo:VO}{o o':Obj}(hk:get k h=some (false,vo))(hj:L[j]?=some (ρ.at_ k,o)):X7 ρ D (del k h) i (L.set j (ρ.at_ k,o')):=by
 have hjl:j<L.length:=(E9e.1 hj).1
 have stay:∀(p:Nat×Obj),p∈L→p.1≠ρ.at_ k→p∈L.set j (ρ.at_ k,o'):=fun p hp hne=>by
  obtain⟨q,hq⟩:=List.getElem?_of_mem hp
  have hqj:q≠j:=by
   rintro rfl;rw[hq] at hj;exact hne (congrArg Prod.fst (Option.some.inj hj))
  exact E9g ((F0q (by omega)).trans hq)
 refine⟨fun x fz w hx=>?_,fun x y w w' hx hy e=>hL.inj x y w w' (A1n hx).2 (A1n hy).2 e,fun p hp=>⟨stay p (hL.frm p hp).1 fun e=>(hL.frm p hp).2 k vo hk e.symm,fun x w hx=>(hL.frm p hp).2 x w (A1n hx).2⟩⟩;obtain⟨h1,h2⟩:=A1n hx;obtain⟨h3,h4,o1,h5,h6⟩:=hL.ok x fz w h2;refine⟨h3,h4,o1,h5,?_⟩;split at h6
 ·rename_i hf;rw[if_pos hf];exact h6
 ·rename_i hf;rw[if_neg hf];have hf':fz=false:=by simpa using hf
  subst hf';exact stay _ h6 fun e=>h1 (hL.inj x k w vo h2 hk e)
theorem St.putObj{w:World}{j l:Nat}{o:Obj}(h:St i L w)(hj:L[j]?=some (l,o))(o':Obj):St i (L.set j (l,o')) (w.putObj l o'):=by
 have hb:w.heap[l]?=some o:=h.own _ (E9g hj);refine h.put hj rfl rfl rfl fun c=>?_
 by_cases hc:c=l
 ·subst hc;rw[if_pos rfl];exact World.putObj_heap_same (Array.getElem?_eq_some_iff.1 hb).1
 ·rw[if_neg hc,World.putObj_heap_other hc]
end
end
noncomputable section
open Go Go.Eng
abbrev St':=Ex×Tr VV×VH×Nat
def lkp(id:Nat):I4→Option (List PE×List Nat)
 |[]=>none
 |(k,p)::l=>bif E9p k id then some p else lkp id l
def okC(pl:I4):Code→Bool
 | .region id ops true=>(match lkp id pl with
   |some (p,tl)=>C2r ops.toList p tl
   |none=>true)
 | .seq a b=>okC pl a&&okC pl b
 | .cond _ a b=>okC pl a&&okC pl b
 | .block _ a=>okC pl a
 | .loop a=>okC pl a
 | .scope a=>okC pl a
 | .rangeFunc _ _ a b=>okC pl a&&okC pl b
 |_=>true
def A5y(P:Program):F7→I4→Code→Prop:=fun T pl c=>T.ok P∧okC pl c=true
def D2a:Option Code→Option Ex
 |none=>some .normal
 |some .ret=>some .ret
 |some (.exit j)=>some (.exit j)
 |_=>none
section
variable(T:F7)(pl:I4)(N G:Nat)(rd:Option Nat)(cal:N8)
def rdOk(h:VH):Bool:=match rd with
 |none=>true
 |some b=>(match get b h with
  |some (false,.loop ..)=>true
  |_=>false)
def C3y(g:Operand)(ps:Array Tmp)(assign bd:Code)(f:Tr VV)(h:VH)(n:Nat):Option St':=
 match evO N G f g with
 |some (.fn (.func gf) fs cs)=>bif rdOk rd h then
  (match cal (.it gf) (fs++[.yld n]++cs) (set n (false,.loop N f T pl ps.toList assign bd 0 none) h) (n+1) with
  |some e=>(match get n e.h with
   |some (false,.loop _ _ _ _ _ _ _ st pend)=>bif E9p st 1 then none else(match D2a pend with
    |some ex=>some (ex,f,del n e.h,e.n)
    |none=>none)
   |_=>none)
  |none=>none) else none
 |_=>fl _ 0
def body(ih:Code→Tr VV→VH→Nat→Option St')(c:Code)(f:Tr VV)(h:VH)(n:Nat):Option St':=
 match c with
 | .skip=>some (.normal,f,h,n)
 | .ret=>some (.ret,f,h,n)
 | .exit j=>some (.exit j,f,h,n)
 | .region _ ops false=>(match B6a T N G cal ops.toList ops.toList f h n with
   |some s=>some (.normal,s)
   |none=>none)
 | .region id ops true=>(match lkp id pl with
   |some (p,tl)=>(match A6x ops.toList tl with
    |some tops=>(match evD T N G cal ops.toList (n+C2y p) p ⟨f,h,h,n+C2y p,n⟩ with
     |some s=>(match B6a T N G cal ops.toList tops s.f s.h s.n with
      |some s2=>some (.normal,s2)
      |none=>none)
     |none=>none)
    |none=>none)
   |none=>fl _ 0)
 | .seq a b=>(match ih a f h n with
   |some (.normal,f',h',n')=>tk (ih b f' h' n')
   |r=>r)
 | .cond x a b=>(match evO N G f x with
   |some (.bool true)=>tk (ih a f h n)
   |some (.bool false)=>tk (ih b f h n)
   |_=>fl _ 0)
 | .block j a=>(match ih a f h n with
   |some (.exit k,s)=>bif E9p k j then some (.normal,s) else some (.exit k,s)
   |r=>r)
 | .loop a=>(match ih a f h n with
   |some (.normal,f',h',n')=>tk (ih (.loop a) f' h' n')
   |r=>r)
 | .rangeFunc g ps a b=>C3y T pl N G rd cal g ps a b f h n
 | .label _=>some (.normal,f,h,n)
 | .scope a=>ih a f h n
 |_=>fl _ 0
def evC(fuel:Nat):Code→Tr VV→VH→Nat→Option St':=
 Nat.rec (fun _ _ _ _=>none) (fun _ ih c f h n=>body T pl N G rd cal ih c f h n) fuel
theorem B7q(k:Nat)(c:Code)(f:Tr VV)(h:VH)(n:Nat):evC T pl N G rd cal (k+1) c f h n=body T pl N G rd cal (evC T pl N G rd cal k) c f h n:=rfl
end
def FOk(ρ:Loc)(D:J8)(F:Fence):Option Nat→Prop
 |none=>F=Fence.wide
 |some b=>F=Fence.wide.inRound (ρ.at_ b)∧D b
theorem FOk.wd{ρ:Loc}{D:J8}{F:Fence}{rd:Option Nat}(h:FOk ρ D F rd):Wd F:=by
 cases rd with
 |none=>exact .inl h
 |some b=>exact .inr ⟨_,h.1⟩
theorem FOk.ext{ρ ρ':Loc}{D D':J8}{F:Fence}{rd:Option Nat}(h:FOk ρ D F rd)(e:Ext0 D ρ ρ')(hD:D.le D'):FOk ρ' D' F rd:=by
 cases rd with
 |none=>exact h
 |some b=>exact⟨by rw[e.at_ b h.2];exact h.1,hD b h.2⟩
theorem FOk.wk{ρ:Loc}{D:J8}{F:Fence}{rd:Option Nat}(h:FOk ρ D F rd)(K:List (Nat×Obj)):FOk (ρ.wk K) D F rd:=h.ext (ρ.wk_ext K D) (J8.le.refl D)
section
variable{N G:Nat}{P:Program}{T:F7}{pl:I4}{cal:N8}
theorem jump_wp{F:Fence}{n:Nat}{Q:Exit→Act→World→Prop}{a:Act}{w:World}{ex:Ex}(h:Q ex.to a w):∀(pend:Option Code),(match pend with
 |none=>Q .normal a w
 |some c=>c.wpIn F n P Q a w)∨D2a pend≠some ex:=by
 intro pend;by_cases hj:D2a pend=some ex
 ·left;cases pend with
  |none=>cases hj;exact h
  |some c=>cases c<;>cases hj<;>first|exact wpIn_ret h|exact wpIn_exit h
 ·exact .inr hj
theorem D3h(hT:T.ok P)(hcal:CalOk P (A5y P) G cal){rd:Option Nat}{g:Operand}{ps:Array Tmp}{assign bd:Code}{ρ:Loc}{D:J8}{n:Nat}{f:Tr VV}{h:VH}{fr:Fr}{i:Imm}{L:SH}{e:Ex}{s:Tr VV×VH×Nat}{F:Fence}
 (hok:okC pl (.rangeFunc g ps assign bd)=true) (hS:G5 ρ D f fr) (hG:Glob (A5y P) ρ D G) (hL:X7 ρ D h i L) (hD:X2 D n) (hF:FOk ρ D F rd) (hev:C3y T pl N G rd cal g ps assign bd f h n=some (e,s)):
 CM P F N (.rangeFunc g ps assign bd) fr i L fun rs e' fr' i' L'=>e'=e∧C5r ρ D n s rs fr' i' L':=by
 unfold C3y at hev;split at hev
 ·rename_i gf fs cs hg;cases hrd:rdOk rd h with
  |false=>rw[hrd] at hev;cases hev
  |true=>
  rw[hrd] at hev;simp only[cond_true] at hev;split at hev
  ·rename_i ef hef;split at hev
   ·rename_i N' f' T' pl' ps' as' bd' st pend hgn;cases hst:E9p st 1 with
    |true=>rw[hst] at hev;cases hev
    |false=>
    rw[hst] at hev;simp only[cond_false] at hev;split at hev
    ·rename_i ex hj;cases hev;simp only[okC,E9j] at hok;obtain⟨g1,g2⟩:=D5 hS hG hg;simp only[VV.lt] at g1;simp only[C2] at g2;have hgood:ρ.good T pl assign∧ρ.good T pl bd:=by rw[hG.gd];exact⟨⟨hT,hok.1⟩,hT,hok.2⟩
     have main:∀(fn l dfr:Nat)(rs:List Nat)(ds:List Deferred)(L1:SH)(w1:World)(R:Exit→Act→World→Prop),
      St i ((l,N7 fn N fr ps assign bd dfr .ready)::L1) w1→(∀p∈L,p∈L1)→Marks ρ (fun k fz vo=>get k h=some (fz,vo)) rs L1→(∀r∈rs,r≠l)→
      (∀rs e' f' i' L' w',i.le i'→St i' L' w'→(e'=e∧C5r ρ D n (f,del n ef.h,ef.n) rs f' i' L')→R e'.to (ofD N (rs.map A6e++ds) f') w')→
      ∃(d:Deferred)(w₁':World)(f':FuncId)(args:Array Value)(w₂:World),(resolve (ofD N ds fr).eval (rangeCall g l) 0).run P w1=.ok d w₁'∧(∀f',Target.leads P w₁' d.target d.args=some f'→F.fn f')∧(invoke d.target d.args).run P w₁'=.ok (.enter f' args) w₂∧
       (F.depth.isSome=true→1≤0)∧CallsIn F (0-1) P f' args w₂ (rangePost F 0 P l R {ofD N ds fr with defers:=rs.map A6e++ds}):=by
      intro fn l dfr rs ds L1 w1 R hst1 hsub hm hrl hR;have hLa:X7 (ρ.wk (kpm ρ rs)) D h i L1:=X7.kpm (hL.more hsub) hm;have hlt:(VO.loop N f T pl ps.toList assign bd 0 none).lt (D.add n):=fun t v hv=>VV.lt_mono (D.le_add n) v (hS t v hv).1
      have hholds:V3 ((ρ.wk (kpm ρ rs)).add n l 0) n (.loop N f T pl ps.toList assign bd 0 none) (N7 fn N fr ps assign bd dfr .ready):=
       ⟨hgood.1,hgood.2,fr,fn,dfr,fun t v hv=>by
        rw[S4 (((ρ.wk_ext _ D)).trans0 ((ρ.wk (kpm ρ rs)).add_ext hD.not l 0).toExt0 (J8.le.refl D)) v (hS t v hv).1];exact(hS t v hv).2,by simp[N7,E2u]⟩
      have hLb:=X7.push hLa hD.not hst1.nodup hlt hholds
      have hDn:X2 (D.add n) (n+1):=fun b hb=>by
       rcases hb with hb|rfl
       ·have:=hD b hb;omega
       ·omega
      have hGb:Glob (A5y P) ((ρ.wk (kpm ρ rs)).add n l 0) (D.add n) G:=(hG.wk _).ext ((ρ.wk (kpm ρ rs)).add_ext hD.not l 0) (D.le_add n);have hargs:C5 (D.add n) (fs++[.yld n]++cs):=A5b (A5b (J5 (D.le_add n) fs g1.1) (by simp only[C5,VV.lt];exact⟨.inr rfl,trivial⟩)) (J5 (D.le_add n) cs g1.2);obtain⟨hfn,hfs⟩:=hcal.it _ _ _ _ _ hef _ _ i _ hDn hGb hLb hargs;have ex0:Ext0 D ρ ((ρ.wk (kpm ρ rs)).add n l 0):=(ρ.wk_ext _ D).trans0 ((ρ.wk (kpm ρ rs)).add_ext hD.not l 0).toExt0 (J8.le.refl D)
      have ea:C3 ((ρ.wk (kpm ρ rs)).add n l 0) (fs++[.yld n]++cs)=C3 ρ fs++[Value.func (.yield l) #[] #[]]++C3 ρ cs:=by
       rw[V6,V6,Q8 ex0 fs g1.1,Q8 ex0 cs g1.2];simp[C3,C2,Loc.add]
      rw[ea] at hfs;refine⟨{target:=.fn (.func gf) (C3 ρ cs).toArray,args:=(C3 ρ fs).toArray++#[Value.func (.yield l) #[] #[]]},w1,gf,((C3 ρ fs).toArray++#[Value.func (.yield l) #[] #[]])++(C3 ρ cs).toArray,w1,?_,fun _ _=>hF.wd.fn _,?_,hF.wd.depth,?_⟩
      ·simp only[resolve,V7,g2];simp[Deferred.ofValue,rangeCall,ev,g2]
      ·simp[invoke,U6 hfn]
      ·refine hF.wd.calls ?_;have eb:((C3 ρ fs).toArray++#[Value.func (.yield l) #[] #[]])++(C3 ρ cs).toArray=(C3 ρ fs++[Value.func (.yield l) #[] #[]]++C3 ρ cs).toArray:=by simp
       rw[eb];refine Calls.mono (hfs w1 hst1) ?_;rintro en w3 ⟨v,i3,L3,rfl,hi3,hs3,ρ3,k1,k2,k3,k4⟩;obtain⟨ob,j,⟨-,-,fr3,fn3,dfr3,-,rfl⟩,hj3⟩:=X7.own k3 hgn;have hat:ρ3.at_ n=l:=by rw[k1.at_ n (.inr rfl)];simp[Loc.add]
       rw[hat] at hj3;have hheap:=hs3.own _ (E9g hj3);simp only at hheap
       refine⟨pend,_,run_endLoop hheap (by
        simp only;intro e0
        have:st≠1:=fun e=>by rw[e] at hst;cases hst
        unfold E2u at e0;split at e0
        ·cases e0
        ·exact this rfl
        ·cases e0),?_⟩
       have hs4:=St.putObj hs3 hj3 (.loop {state:=.exhausted,pending:=pend,fn:=fn3,tmps:=(ofF N' fr3).tmps,params:=ps'.toArray,assign:=as',body:=bd',defers:=dfr3})
       refine(jump_wp ?_ pend).resolve_right (fun q=>q hj)
       have hD3:(D.add n).le (D.upto n ef.n):=fun b hb=>by
        rcases hb with hb|rfl
        ·exact .inl hb
        ·exact .inr ⟨E9q b,by have:b+1≤ef.n:=k2;omega⟩
       have hD4:((D.add n).upto (n+1) ef.n).le (D.upto n ef.n):=fun b hb=>by
        rcases hb with hb|hb
        ·exact hD3 b hb
        ·exact .inr ⟨by omega,hb.2⟩
       have e3:Ext0 D ρ ρ3:=ex0.trans0 k1.toExt0 (D.le_add n);have hk3:ρ3.keep=ρ.keep++rs.map X6:=k1.keep;rw[←hat] at hj3 hs4;have hLf:=(D9g (o':=.loop {state:=.exhausted,pending:=pend,fn:=fn3,tmps:=(ofF N' fr3).tmps,params:=ps'.toArray,assign:=as',body:=bd',defers:=dfr3}) k3 hgn hj3).mono hD4;rw[hat] at hs4;refine hR rs e fr i3 _ _ hi3 hs4 ⟨rfl,ρ3.wk ρ.keep,⟨⟨e3.at_,e3.cap,e3.good⟩,rfl⟩,by simp only;omega,?_,?_,?_⟩
       ·exact G5.wk (fun t v hv=>⟨VV.lt_mono (D.le_upto n ef.n) v (hS t v hv).1,by rw[S4 e3 v (hS t v hv).1];exact(hS t v hv).2⟩) _
       ·rw[←hat];exact hLf.wk _ fun p hp=>hLf.frm p (by rw[hk3];exact F1p _ hp)
       ·rw[←hat];have inM:∀r∈rs,X6 r∈ρ3.keep:=fun r hr=>by rw[hk3];exact List.mem_append_right _ (F1k.2 ⟨r,hr,rfl⟩)
        exact⟨hm.nd,fun r hr=>(hLf.frm _ (inM r hr)).1,fun r hr=>(hLf.frm _ (inM r hr)).2,fun r hr p hp=>hm.kp r hr p hp⟩
     unfold CM;intro ds w hw R hR;refine wpIn_rangeFunc fun fn _=>?_
     cases rd with
     |none=>
      have hF':F=Fence.wide:=hF;subst hF';have hs1:=hw.push (w':=w.alloc (.deferred (some []))) (o:=.deferred (some [])) rfl rfl rfl rfl;have hs2:=hs1.push (w':=(w.alloc (.deferred (some []))).alloc (N7 fn N fr ps assign bd w.heap.size .ready)) (o:=N7 fn N fr ps assign bd w.heap.size .ready) rfl rfl rfl rfl;have hsz:(w.alloc (.deferred (some []))).heap.size=w.heap.size+1:=World.size_alloc ..;rw[hsz] at hs2
      have hnew:∀p∈L,p.1≠w.heap.size:=fun p hp e=>by
       have h1:=hw.own p hp;rw[e] at h1
       have:=(Array.getElem?_eq_some_iff.1 h1).1
       omega
      obtain⟨d,w1',f1,args,w2,k1,k2,k3,k4,k5⟩:=main fn (w.heap.size+1) w.heap.size [w.heap.size] ds (X6 w.heap.size::L) _ R hs2 (fun p hp=>E9u _ hp)
       ⟨by simp,fun r hr=>by rw[List.mem_singleton] at hr;subst hr;simp,fun r hr k vo hk e=>by
        rw[List.mem_singleton] at hr;subst hr;obtain⟨_,_,o,_,h4⟩:=hL.ok k false vo hk;exact hnew _ (by simpa using h4) e,fun r hr p hp=>by rw[List.mem_singleton] at hr;subst hr;exact hnew p (hL.frm p hp).1⟩ (fun r hr=>by rw[List.mem_singleton] at hr;omega) hR
      refine⟨_,_,_,d,w1',f1,args,w2,?_,k1,k2,k3,k4,k5⟩
      have:(ofD N ds fr).tmps=(ofF N fr).tmps:=rfl
      rw[this];exact run_enterLoop_outer _ _ _ _ _
     |some b0=>
      obtain⟨hF',hDb⟩:=hF;subst hF'
      have hrd':∃N0 f0 T0 pl0 ps0 as0 bd0 st0 pe0,get b0 h=some (false,.loop N0 f0 T0 pl0 ps0 as0 bd0 st0 pe0):=by
       unfold rdOk at hrd;simp only at hrd;split at hrd
       ·rename_i h0;exact⟨_,_,_,_,_,_,_,_,_,h0⟩
       ·cases hrd
      obtain⟨N0,f0,T0,pl0,ps0,as0,bd0,st0,pe0,hb0⟩:=hrd';obtain⟨_,_,o0,⟨_,_,fr0,fn0,dfr0,_,rfl⟩,hmem⟩:=hL.ok b0 false _ hb0;have hl0:=hw.own _ (show(ρ.at_ b0,_)∈L by simpa using hmem);have hs2:=hw.push (w':=w.alloc (N7 fn N fr ps assign bd dfr0 .ready)) (o:=N7 fn N fr ps assign bd dfr0 .ready) rfl rfl rfl rfl;obtain⟨d,w1',f1,args,w2,k1,k2,k3,k4,k5⟩:=main fn w.heap.size dfr0 [] ds L _ R hs2 (fun p hp=>hp) Marks.nil (fun r hr=>by cases hr) hR;refine⟨_,_,_,d,w1',f1,args,w2,?_,k1,k2,k3,k4,k5⟩
      have:(ofD N ds fr).tmps=(ofF N fr).tmps:=rfl
      rw[this];exact run_enterLoop_inner hl0 _ _ _ _ _
    ·cases hev
   ·cases hev
  ·cases hev
 ·cases hev
end
end
noncomputable section
open Go Go.Eng
section
variable{N G:Nat}{P:Program}{T:F7}{pl:I4}{cal:N8}{rd:Option Nat}
theorem D2j(hm:P.follows .mixedOrders=true)(hT:T.ok P)(hcal:CalOk P (A5y P) G cal):∀(fuel:Nat)(c:Code)(ρ:Loc)(D:J8)(n:Nat)(f:Tr VV)(h:VH)(fr:Fr)(i:Imm)(L:SH)(e:Ex)(s:Tr VV×VH×Nat)(F:Fence),
 okC pl c=true→G5 ρ D f fr→Glob (A5y P) ρ D G→X7 ρ D h i L→X2 D n→FOk ρ D F rd→
 evC T pl N G rd cal fuel c f h n=some (e,s)→CM P F N c fr i L fun rs e' fr' i' L'=>e'=e∧C5r ρ D n s rs fr' i' L':=by
 intro fuel;induction fuel using Nat.strongRecOn with
 |_ fuel ihs=>
 intro c ρ D n f h fr i L e s F hok hS hG hL hD hF hev;cases fuel with
 |zero=>cases hev
 |succ k=>
 have ih:=ihs k (Nat.lt_succ_self k);have self:C5r ρ D n (f,h,n) [] fr i L:=⟨ρ,Ext.refl D ρ,E9q n,hS.mono (D.le_upto n n),hL.mono (D.le_upto n n),Marks.nil⟩
 have plain:∀{c:Code}{e:Ex}{s:Tr VV×VH×Nat},CS P N c fr i L (fun e' fr' i' L'=>e'=e∧Aft ρ D n s fr' i' L')→CM P F N c fr i L fun rs e' fr' i' L'=>e'=e∧C5r ρ D n s rs fr' i' L':=by
  intro c e s hc;exact CM.mono (CM.of hF.wd (Q:=fun rs e' fr' i' L'=>rs=[]∧e'=e∧Aft ρ D n s fr' i' L') (CS.mono hc fun e' fr' i' L' _ q=>⟨rfl,q⟩)) fun rs e' fr' i' L' _ ⟨h1,h2,h3⟩=>⟨h2,by subst h1;exact h3.toM⟩
 have self':Aft ρ D n (f,h,n) fr i L:=⟨ρ,Ext.refl D ρ,E9q n,hS.mono (D.le_upto n n),hL.mono (D.le_upto n n)⟩;rw[B7q] at hev;unfold body at hev;split at hev
 ·cases hev;exact plain (D7z ⟨rfl,self'⟩)
 ·cases hev;exact plain (E4v ⟨rfl,self'⟩)
 ·cases hev;exact plain (D8a ⟨rfl,self'⟩)
 ·rename_i id ops;split at hev
  ·rename_i s' hs;cases hev
   have:=A3 (id:=id) (Q:=fun e' fr' i' L'=>e'=Ex.normal∧Aft ρ D n s fr' i' L') (B8a (B0q hT hcal hS hG hL hD hs) fun fr' i' L' k=>⟨rfl,k⟩)
   exact plain (by simpa using this)
  ·cases hev
 ·rename_i id ops;split at hev
  ·rename_i p tl hp;split at hev
   ·rename_i tops htops;split at hev
    ·rename_i s' hs;split at hev
     ·rename_i s2 hs2;cases hev;have hpo:C2r ops.toList p tl=true:=by unfold okC at hok;rw[hp] at hok;exact hok
      have:=evD_ok (id:=id) hm hT hcal hpo htops hS hG hL hD (Nat.le_add_right _ _) hs hs2
      exact plain (by simpa using this)
     ·cases hev
    ·cases hev
   ·cases hev
  ·cases hev
 ·rename_i a b;simp only[okC,E9j] at hok;split at hev
  ·rename_i f' h' n' ha;refine CM.seq (CM.mono (ih a ρ D n f h fr i L _ _ F hok.1 hS hG hL hD hF ha) ?_);rintro rs e' fr' i' L' _ ⟨rfl,ρ',h1,h2,h3,h4,h5⟩;refine A5k (CM.mono (ih b (ρ'.wk (kpm ρ' rs)) (D.upto n n') n' f' h' fr' i' L' e s F hok.2 (h3.wk _) ((hG.ext h1 (D.le_upto n n')).wk _) (X7.kpm h4 h5) (hD.upto h2) ((hF.ext h1.toExt0 (D.le_upto n n')).wk _) hev) ?_);rintro rs' e2 fr2 i2 L2 _ ⟨rfl,k⟩;exact⟨rfl,k.step h5 h1 h2⟩
  ·rename_i hne;refine CM.seq (CM.mono (ih a ρ D n f h fr i L e s F hok.1 hS hG hL hD hF hev) ?_);rintro rs e' fr' i' L' _ ⟨rfl,k⟩;cases e' with
   |normal=>exact absurd hev (hne _ _ _)
   |exit j=>exact A9e ⟨rfl,k⟩
   |ret=>exact B1z ⟨rfl,k⟩
 ·rename_i x a b;simp only[okC,E9j] at hok;split at hev
  ·rename_i hx;have h1:=(D5 hS hG hx).2;simp only[C2] at h1;exact CM.cond_true h1 (ih a ρ D n f h fr i L e s F hok.1 hS hG hL hD hF hev)
  ·rename_i hx;have h1:=(D5 hS hG hx).2;simp only[C2] at h1;exact CM.cond_false h1 (ih b ρ D n f h fr i L e s F hok.2 hS hG hL hD hF hev)
  ·cases hev
 ·rename_i j a;simp only[okC] at hok;split at hev
  ·rename_i q s' ha;cases hb:E9p q j with
   |true=>
    rw[hb] at hev;cases hev
    have:=E9m hb
    subst this;refine CM.block (CM.mono (ih a ρ D n f h fr i L _ _ F hok hS hG hL hD hF ha) ?_);rintro rs e' fr' i' L' _ ⟨rfl,k⟩;exact C1u ⟨rfl,k⟩
   |false=>
    rw[hb] at hev;cases hev;refine CM.block (CM.mono (ih a ρ D n f h fr i L _ _ F hok hS hG hL hD hF ha) ?_);rintro rs e' fr' i' L' _ ⟨rfl,k⟩;exact Q9 hb ⟨rfl,k⟩
  ·rename_i hne;refine CM.block (CM.mono (ih a ρ D n f h fr i L e s F hok hS hG hL hD hF hev) ?_);rintro rs e' fr' i' L' _ ⟨rfl,k⟩;cases e' with
   |normal=>exact B4d ⟨rfl,k⟩
   |exit j=>exact absurd hev (hne _ _)
   |ret=>exact C9n ⟨rfl,k⟩
 ·rename_i a;have hok':okC pl a=true:=by simp only[okC] at hok;exact hok
  have hev':evC T pl N G rd cal (k+1) (.loop a) f h n=some (e,s):=by rw[B7q];unfold body;exact hev
  refine E8u (fun m rs g i' L'=>m≤k+1∧∃ρ' f1 h1 n1,Ext D ρ ρ'∧n≤n1∧G5 ρ' (D.upto n n1) f1 g∧X7 ρ' (D.upto n n1) h1 i' L'∧Marks ρ' (fun k fz vo=>get k h1=some (fz,vo)) rs L'∧evC T pl N G rd cal m (.loop a) f1 h1 n1=some (e,s)) (k+1) ⟨E9q _,ρ,f,h,n,Ext.refl D ρ,E9q n,hS.mono (D.le_upto n n),hL.mono (D.le_upto n n),Marks.nil,hev'⟩ ?_;rintro m rs g i' L' _ ⟨hmk,ρ',f1,h1,n1,k1,k2,k3,k4,k4m,k5⟩;cases m with
  |zero=>cases k5
  |succ m=>
  have ihm:=ihs m (by omega);rw[B7q] at k5;unfold body at k5;simp only at k5;split at k5
  ·rename_i f' h' n' ha;refine CM.mono (ihm a (ρ'.wk (kpm ρ' rs)) (D.upto n n1) n1 f1 h1 g i' L' _ _ F hok' (k3.wk _) ((hG.ext k1 (D.le_upto n n1)).wk _) (X7.kpm k4 k4m) (hD.upto k2) ((hF.ext k1.toExt0 (D.le_upto n n1)).wk _) ha) ?_;rintro rs' e' fr' i'' L'' _ ⟨rfl,q⟩;obtain⟨ρ2,q1,q2,q3,q4,q5⟩:=q.step k4m k1 k2;exact A5k ⟨m,Nat.lt_succ_self m,by omega,ρ2,f',h',n',q1,q2,q3,q4,q5,k5⟩
  ·rename_i hne;refine CM.mono (ihm a (ρ'.wk (kpm ρ' rs)) (D.upto n n1) n1 f1 h1 g i' L' e s F hok' (k3.wk _) ((hG.ext k1 (D.le_upto n n1)).wk _) (X7.kpm k4 k4m) (hD.upto k2) ((hF.ext k1.toExt0 (D.le_upto n n1)).wk _) k5) ?_;rintro rs' e' fr' i'' L'' _ ⟨rfl,q⟩;cases e' with
   |normal=>exact absurd k5 (hne _ _ _)
   |exit j=>exact A9e ⟨rfl,q.step k4m k1 k2⟩
   |ret=>exact B1z ⟨rfl,q.step k4m k1 k2⟩
 ·exact D3h hT hcal hok hS hG hL hD hF hev
 ·cases hev;exact E8v hF.wd ⟨rfl,self⟩
 ·rename_i a;simp only[okC] at hok;exact CM.scope (ih a ρ D n f h fr i L e s F hok hS hG hL hD hF hev)
 ·cases hev
end
end
noncomputable section
open Go Go.Eng
def E3a:Nat→List VV→Tr VV
 |_,[]=>.lf
 |k,a::l=>set k a (E3a (k+1) l)
theorem D7b{ρ:Loc}{D:J8}:∀{l:List VV}{k:Nat},C5 D l→G5 ρ D (E3a k l) (A6g k (C3 ρ l))
 |[],k,_=>fun t v h=>by rw[E3a,A4v] at h;cases h
 |a::l,k,hl=>by
  simp only[C5] at hl;simp only[E3a,C3,A6g];exact(D7b hl.2).upd hl.1
def getN(N:Nat)(f:Tr VV)(t:Nat):Option VV:=bif F0e t N then get t f else none
theorem getN_ok{ρ:Loc}{D:J8}{N:Nat}{f:Tr VV}{fr:Fr}(hS:G5 ρ D f fr){t:Nat}{v:VV}(h:getN N f t=some v):v.lt D∧ev N fr (.tmp t)=C2 ρ v:=by
 unfold getN at h;cases hb:F0e t N with
 |false=>rw[hb] at h;cases h
 |true=>
  rw[hb] at h
  have:=hS t v h
  simp only[ev,hb,cond_true];exact this
def resO(T:F7)(N:Nat)(f:Tr VV)(h:VH):ResultVar→Option VV
 | .tmp t=>getN N f t
 | .cell a t=>B1r T N 0 f h (.load t (.tmp a))
def E2v(T:F7)(N:Nat)(f:Tr VV)(h:VH):List ResultVar→Option (List VV)
 |[]=>some []
 |r::l=>(match resO T N f h r with
  |some v=>(match E2v T N f h l with
   |some vs=>some (v::vs)
   |none=>none)
  |none=>none)
def resV(T:F7)(N:Nat)(f:Tr VV)(h:VH)(l:List ResultVar):Option VV:=
 match E2v T N f h l with
 |some [v]=>some v
 |some vs=>some (.tup vs)
 |none=>none
def D1v(tmps:Array Value):ResultVar→Sem Value
 | .tmp t=>pure (tmps.getD t undef)
 | .cell a t=>do loadVar t (←asAddr (tmps.getD a undef))
section
variable{Γ:F7→I4→Code→Prop}{ρ:Loc}{D:J8}{N:Nat}{f:Tr VV}{h:VH}{fr:Fr}{i:Imm}{L:SH}{P:Program}{T:F7}
theorem resO_ok(hT:T.ok P)(hS:G5 ρ D f fr)(hL:X7 ρ D h i L){r:ResultVar}{v:VV}(he:resO T N f h r=some v):v.lt D∧∀w,St i L w→(D1v (ofF N fr).tmps r).run P w=.ok (C2 ρ v) w:=by
 cases r with
 |tmp t=>
  obtain⟨h1,h2⟩:=getN_ok hS he;refine⟨h1,fun w _=>?_⟩;simp only[D1v];rw[←h2];simp[evt]
 |cell a t=>
  have hG:Glob ρ.good ρ D 0:=⟨rfl,fun b hb=>absurd hb (Nat.not_lt_zero b),fun b hb=>absurd hb (Nat.not_lt_zero b)⟩;obtain⟨h1,h2⟩:=C1m (dst:=none) (ty:=0) (pos:= "") (B4:=#[]) (gd:=none) hT hS hG hL (show B1r T N 0 f h (.load t (.tmp a))=some v from he);refine⟨h1,fun w hw=>?_⟩;unfold LV at h2;have h3:=h2 w hw;simp only[resO,B1r] at he;split at he
  ·rename_i k off hx;have h4:=(D5 hS hG hx).2;simp only[C2] at h4;have h5:(ofF N fr).tmps.getD a undef=.pointer (some ⟨ρ.at_ k,off,none⟩):=by rw[←h4];simp[evt]
   simp only[D1v,h5];simp only[execOp,h4,Instr.loadAt,Instr.sureAddr] at h3;simp at h3;have h6:(asAddr (.pointer (some ⟨ρ.at_ k,off,none⟩))).run P w=.ok ⟨ρ.at_ k,off,none⟩ w:=by simp[asAddr]
   simp[h6];generalize (loadVar t ⟨ρ.at_ k,off,none⟩).run P w=q at h3;cases q with
   |ok u w'=>simp[Result.andThen] at h3;obtain⟨rfl,rfl⟩:=h3;rfl
   |_=>simp[Result.andThen] at h3
  ·cases he
theorem D5n(hT:T.ok P)(hS:G5 ρ D f fr)(hL:X7 ρ D h i L):∀{l:List ResultVar}{vs:List VV},E2v T N f h l=some vs→C5 D vs∧∀w,St i L w→(l.mapM (D1v (ofF N fr).tmps)).run P w=.ok (C3 ρ vs) w
 |[],vs,he=>by cases he;exact⟨by simp only[C5],fun w _=>by simp[C3]⟩
 |r::l,vs,he=>by
  simp only[E2v] at he;split at he
  ·rename_i v hv;split at he
   ·rename_i vs' hvs;cases he;obtain⟨h1,h2⟩:=resO_ok hT hS hL hv;obtain⟨h3,h4⟩:=D5n hT hS hL hvs;exact⟨by simp only[C5];exact⟨h1,h3⟩,fun w hw=>by simp[h2 w hw,h4 w hw,C3]⟩
   ·cases he
  ·cases he
theorem D3c(hT:T.ok P)(hS:G5 ρ D f fr)(hL:X7 ρ D h i L){fn:Func}{v:VV}(he:resV T N f h fn.results.toList=some v):v.lt D∧∀w,St i L w→(results fn (ofF N fr).tmps).run P w=.ok (C2 ρ v) w:=by
 have key:∀vs:List VV,E2v T N f h fn.results.toList=some vs→C5 D vs∧∀w,St i L w→(fn.results.mapM (D1v (ofF N fr).tmps)).run P w=.ok (C3 ρ vs).toArray w:=fun vs hvs=>by
  obtain⟨h1,h2⟩:=D5n hT hS hL hvs;refine⟨h1,fun w hw=>?_⟩;rw[Array.mapM_eq_mapM_toList];simp[h2 w hw]
 have hfn:results fn (ofF N fr).tmps=(do let vs ←fn.results.mapM (D1v (ofF N fr).tmps);pure (if h:vs.size=1 then vs[0] else .tuple vs)):=by
  unfold results D1v;rfl
 unfold resV at he;split at he
 ·rename_i v' hvs;cases he;obtain⟨h1,h2⟩:=key _ hvs;simp only[C5] at h1;refine⟨h1.1,fun w hw=>?_⟩;rw[hfn];simp[h2 w hw,C3]
 ·rename_i vs hne hvs;cases he;obtain⟨h1,h2⟩:=key _ hvs;refine⟨by simp only[VV.lt];exact h1,fun w hw=>?_⟩
  have hlen:(C3 ρ vs).length≠1:=by
   rw[E5];intro h;obtain⟨a,rfl⟩:=List.length_eq_one_iff.1 h;exact hne a rfl
  rw[hfn];simp[h2 w hw,C2,hlen]
 ·cases he
end
inductive Ent where
 |code (fn:Func) (pl:I4) (T:F7)
 |con (c:List VV→VH→Nat→Option Eff)
abbrev B4v:=Nat→Option Ent
def okF(fn:Func)(pl:I4):Bool:=match fn.body with
 |some c=>okC pl c
 |none=>true
def V5(P:Program)(G g:Nat)(c:List VV→VH→Nat→Option Eff):Prop:=∀vs h n e,c vs h n=some e→∀(ρ:Loc)(D:J8)(i:Imm)(L:SH),X2 D n→Glob (A5y P) ρ D G→X7 ρ D h i L→C5 D vs→D5f P g (C3 ρ vs) i L (G3 ρ D n e)
def B4v.ok(P:Program)(G:Nat)(F:B4v):Prop:=∀g x,F g=some x→match x with
 | .code fn pl T=>P.funcs[g]?=some fn∧Z2 P g=true∧okF fn pl=true∧T.ok P
 | .con c=>V5 P G g c
def fin(T:F7)(N:Nat)(rs:List ResultVar)(r:Option St'):Option Eff:=
 match r with
 |some (.exit _,_)=>none
 |some (_,f,h,n)=>(match resV T N f h rs with
  |some v=>some ⟨some v,h,n⟩
  |none=>fl _ 0)
 |none=>none
def actC(G k:Nat)(ih:N8)(fn:Func)(pl:I4)(T:F7)(vs:List VV)(h:VH)(n:Nat):Option Eff:=
 match fn.body with
 |some c=>bif F0n vs.length fn.ntmps then fin T fn.ntmps fn.results.toList (evC T pl fn.ntmps G none ih k c (E3a 0 vs) h n) else none
 |none=>fl _ 0
def C0k(f:Tr VV):List Nat→List VV→Tr VV
 |p::ps,v::vs=>C0k (set p v f) ps vs
 |_,_=>f
def D1z(G k:Nat)(ih:N8)(b:Nat)(vs:List VV)(h:VH)(n:Nat):Option Eff:=
 match get b h with
 |some (false,.loop N f T pl ps assign bd 0 _)=>bif E9p vs.length ps.length then
  (match evC T pl N G (some b) ih k assign (C0k f ps vs) h n with
  |some (.normal,f2,h2,n2)=>(match get b h2 with
   |some (false,.loop N2 f2' T2 pl2 ps2 as2 bd2 0 pe2)=>(match evC T pl N G (some b) ih k bd f2 (set b (false,.loop N2 f2' T2 pl2 ps2 as2 bd2 1 pe2) h2) n2 with
    |some (ex,_,h4,n4)=>(match get b h4 with
     |some (false,.loop N4 f4' T4 pl4 ps4 as4 bd4 _ _)=>(match ex with
      | .normal=>some ⟨some (.bool true),set b (false,.loop N4 f4' T4 pl4 ps4 as4 bd4 0 none) h4,n4⟩
      | .ret=>some ⟨some (.bool false),set b (false,.loop N4 f4' T4 pl4 ps4 as4 bd4 2 (some .ret)) h4,n4⟩
      | .exit j=>some ⟨some (.bool false),set b (false,.loop N4 f4' T4 pl4 ps4 as4 bd4 2 (some (.exit j))) h4,n4⟩)
     |_=>none)
    |none=>none)
   |_=>none)
  |_=>none) else none
 |_=>none
def act(F:B4v)(G k:Nat)(ih:N8):N8:=fun t vs h n=>(match t with
 | .fn g=>(match F g with
   |some (.code fn pl T)=>actC G k ih fn pl T vs h n
   |some (.con c)=>c vs h n
   |none=>fl _ 0)
 | .it g=>(match F g with
   |some (.code fn pl T)=>actC G k ih fn pl T vs h n
   |_=>fl _ 0)
 | .yld b=>D1z G k ih b vs h n)
def C2j(F:B4v)(G k:Nat)(d:Nat):N8:=
 Nat.rec (fun _ _ _ _=>none) (fun _ ih=>act F G k ih) d
theorem B2k(F:B4v)(G k d:Nat):C2j F G k (d+1)=act F G k (C2j F G k d):=rfl
theorem C1a:∀{rs:List Nat}{L:SH},rs.Nodup→(∀r∈rs,X6 r∈L)→∃L0,L.Perm (L0++rs.map X6)
 |[],L,_,_=>⟨L,by simp⟩
 |r::rs,L,hn,h=>by
  obtain⟨A,B,hab⟩:=F0z (h r (by simp));rw[List.nodup_cons] at hn
  have hin:∀q∈rs,X6 q∈A++B:=fun q hq=>by
   have h1:=h q (E9u _ hq);rw[hab,E9r,F0b] at h1;rcases h1 with h1|h1|h1
   ·exact F1p _ h1
   ·have:q=r:=congrArg Prod.fst h1
    exact absurd (this▸hq) hn.1
   ·exact List.mem_append_right _ h1
  obtain⟨L0,h0⟩:=C1a hn.2 hin;refine⟨L0,?_⟩;rw[hab,F0w];exact(List.perm_middle).trans ((List.Perm.cons _ h0).trans (List.perm_middle).symm)
theorem E0w{P:Program}{g:FuncId}{fn:Func}{c:Code}{args:List Value}{i:Imm}{L:SH}{G3:Value→Imm→SH→Prop}{n:Nat}(hf:P.funcs[g]?=some fn)(hb:fn.body=some c)(hn:fn.ntmps=n)(hl:args.length≤n)
 (h:CM P Fence.wide n c (A6g 0 args) i L fun rs e f i' L'=>(∀j,e≠ .exit j)∧∃L0,L'.Perm (L0++rs.map X6)∧∃v,(∀w,St i' L0 w→(results fn (ofF n f).tmps).run P w=.ok v w)∧G3 v i' L0):E6 P g args i L G3:=by
 intro w hw
 refine(callsIn_wide (n:=0)).1 (callsIn_of_wp_marks hf hb trivial ?_)
 rw[hn,B7y n args hl];refine h.use [] w hw _ fun rs e f i' L' w' hi hs q=>?_
 obtain⟨hne,L0,hp,v,hv,hpost⟩:=q
 have key:∀(rs:List Nat)(L0:SH)(w':World),St i' (L0++rs.map X6) w'→G3 v i' L0→(∀w,St i' L0 w→(results fn (ofF n f).tmps).run P w=.ok v w)→LeavesInM Fence.wide 0 P fn (ofD n (rs.map A6e) f).tmps (fun e w'=>∃v i' L',e=.returned v∧i.le i'∧St i' L' w'∧G3 v i' L') (rs.map A6e) .returning w':=by
  intro rs;induction rs with
  |nil=>
   intro L0 w' hs hp hv;have hs':St i' L0 w':=by simpa using hs
   exact⟨v,hv w' hs',_,i',L0,rfl,hi,hs',hp⟩
  |cons r0 rs ih=>
   intro L0 w' hs hp hv;refine⟨by simp,.inl ⟨r0,_,rfl,run_takeDeferred (ds:=[]) (hs.own (X6 r0) (by simp)),?_⟩⟩;have hs1:St i' (L0++(r0,.deferred (some []))::rs.map X6) w':=hs;obtain⟨_,hs2⟩:=A1y (o':=.deferred none) hs1;exact ih L0 _ (hs2.perm List.perm_middle).drop hp hv
 have k2:=key rs L0 w' (hs.perm hp) hpost hv;have e1:rs.map A6e++[]=rs.map A6e:=by simp
 rw[e1];cases e with
 |exit j=>exact absurd rfl (hne j)
 |normal=>exact k2
 |ret=>exact k2
section
variable{P:Program}{G k:Nat}{ih:N8}
theorem D7d(hm:P.follows .mixedOrders=true)(hcal:CalOk P (A5y P) G ih){g:Nat}{fn:Func}{pl:I4}{T:F7}{vs:List VV}{h:VH}{n:Nat}{e:Eff}(hf:P.funcs[g]?=some fn)(hpl:okF fn pl=true)(hT:T.ok P)(he:actC G k ih fn pl T vs h n=some e)
 {ρ:Loc} {D:J8} {i:Imm} {L:SH} (hD:X2 D n) (hG:Glob (A5y P) ρ D G) (hL:X7 ρ D h i L) (hvs:C5 D vs):E6 P g (C3 ρ vs) i L (G3 ρ D n e):=by
 unfold actC at he;split at he
 ·rename_i c hc;cases hb:F0n vs.length fn.ntmps with
  |false=>rw[hb] at he;cases he
  |true=>
   rw[hb] at he;simp only[cond_true] at he;have hlen:(C3 ρ vs).length≤fn.ntmps:=by rw[E5];exact E9w hb
   unfold fin at he;split at he
   ·cases he
   ·rename_i e0 f' h' n' hne hs;split at he
    ·rename_i v hv;cases he;refine E0w hf hc rfl hlen (CM.mono (D2j hm hT hcal k c ρ D n _ h _ i L e0 _ Fence.wide (by unfold okF at hpl;rw[hc] at hpl;exact hpl) (D7b hvs) hG hL hD (show FOk ρ D Fence.wide none from rfl) hs) ?_);rintro rs e1 fr i' L' _ ⟨rfl,ρ',k1,k2,k3,k4,k5⟩;refine⟨fun j=>hne j,?_⟩;obtain⟨L0,hp⟩:=C1a k5.nd k5.own
     have hin:∀p∈L',(∀r∈rs,p.1≠r)→p∈L0:=fun p hp' hne=>by
      have:=hp.mem_iff.1 hp'
      rcases E9r.1 this with h1|h1
      ·exact h1
      ·obtain⟨r,hr,rfl⟩:=F1k.1 h1;exact absurd rfl (hne r hr)
     have hL0:X7 ρ' (D.upto n n') h' i' L0:=by
      refine⟨fun k fz vo hk=>?_,k4.inj,fun p hp'=>⟨hin p (k4.frm p hp').1 fun r hr=>k5.kp r hr p hp',(k4.frm p hp').2⟩⟩;obtain⟨a1,a2,o,a3,a4⟩:=k4.ok k fz vo hk;refine⟨a1,a2,o,a3,?_⟩;split at a4
      ·rename_i hf;rw[if_pos hf];exact a4
      ·rename_i hf;rw[if_neg hf];have hf':fz=false:=by simpa using hf
       subst hf';exact hin _ a4 fun r hr=>k5.off r hr k vo hk
     obtain⟨h1,h2⟩:=D3c hT k3 hL0 hv;exact⟨L0,hp,_,h2,ρ',k1,k2,hL0,fun v' hv'=>by cases hv';exact⟨h1,rfl⟩⟩
    ·cases he
   ·cases he
 ·cases he
theorem C8c{ρ:Loc}{D:J8}:∀{ps:List Nat}{vs:List VV}{f:Tr VV}{fr:Fr},C5 D vs→G5 ρ D f fr→G5 ρ D (C0k f ps vs) (B1m fr ps (C3 ρ vs))
 |[],vs,f,fr,_,h=>by cases vs<;>simpa [C0k,B1m,C3] using h
 |_::_,[],f,fr,_,h=>by simpa [C0k,B1m,C3] using h
 |p::ps,v::vs,f,fr,hv,h=>by
  simp only[C5] at hv;simp only[C0k,B1m,C3];exact C8c hv.2 (h.upd hv.1)
theorem E5d(hm:P.follows .mixedOrders=true)(hcal:CalOk P (A5y P) G ih){b:Nat}{vs:List VV}{h:VH}{n:Nat}{e:Eff}(he:D1z G k ih b vs h n=some e)
 {ρ:Loc} {D:J8} {i:Imm} {L:SH} (hD:X2 D n) (hG:Glob (A5y P) ρ D G) (hL:X7 ρ D h i L) (hb:D b) (hvs:C5 D vs):B1w P (ρ.at_ b) (C3 ρ vs) i L fun c i' L'=>G3 ρ D n e (.bool c) i' L':=by
 unfold D1z at he;split at he
 ·rename_i N f T pl ps assign bd pe hgb;cases hlen:E9p vs.length ps.length with
  |false=>rw[hlen] at he;cases he
  |true=>
  rw[hlen] at he;simp only[cond_true] at he;split at he
  ·rename_i f2 h2 n2 hev1;split at he
   ·rename_i N2 f2' T2 pl2 ps2 as2 bd2 pe2 hg2;split at he
    ·rename_i ex f4 h4 n4 hev2;split at he
     ·rename_i N4 f4' T4 pl4 ps4 as4 bd4 st4 pe4 hg4;obtain⟨ob,j,⟨gd1,gd2,fr,fn,dfr,hfr,rfl⟩,hj⟩:=X7.own hL hgb;have hlt:=(hL.ok _ _ _ hgb).2.1;rw[hG.gd] at gd1 gd2;have hlen':=E9m hlen;intro w hw;have hl:=hw.own _ (E9g hj);simp only at hl;refine⟨_,_,_,_,run_yield hl (by simp[E5,hlen']),roundIn_of_wpIn trivial ?_⟩
      have ht:((ps.toArray.zip (C3 ρ vs).toArray).foldl (fun tmps (t,a)=>tmps.setIfInBounds t a) (ofF N fr).tmps)=(ofF N (B1m fr ps (C3 ρ vs))).tmps:=by
       rw[←C3g N [] ps (C3 ρ vs) fr];simp only[←Array.foldl_toList,Array.toList_zip]
      have ht':({tmps:=(ps.toArray.zip (C3 ρ vs).toArray).foldl (fun tmps (t,a)=>tmps.setIfInBounds t a) (ofF N fr).tmps,defers:=[]}:Act)=ofD N [] (B1m fr ps (C3 ρ vs)):=by
       rw[ht];rfl
      refine Eq.mpr (congrArg (fun a=>assign.wpIn (Fence.wide.inRound (ρ.at_ b)) 0 P _ a w) ht') ?_;have hS:G5 ρ D f fr:=fun t v hv=>⟨hlt t v hv,hfr t v hv⟩
      have hF:FOk ρ D (Fence.wide.inRound (ρ.at_ b)) (some b):=⟨rfl,hb⟩
      refine(D2j hm gd1.1 hcal k assign ρ D n _ h _ i L _ _ _ gd1.2 (C8c hvs hS) hG hL hD hF hev1).use [] w hw _ fun rs e1 f1 i1 L1 w1 hi1 hs1 q=>?_
      obtain⟨rfl,ρ1,q1,q2,q3,q4,-⟩:=q;simp only at q2 q3 q4;have hat1:ρ1.at_ b=ρ.at_ b:=q1.at_ b hb;obtain⟨ob2,j2,⟨gd3,gd4,fr2,fn2,dfr2,hfr2,rfl⟩,hj2⟩:=X7.own q4 hg2;have hl2:=hs1.own _ (E9g hj2);simp only at hl2;simp only[Ex.to,Exit.then];have hst0:E2u 0=.ready:=rfl;rw[←hat1];refine⟨_,run_beginRound hl2 rfl,?_⟩;have hs2:=St.putObj hs1 hj2 (.loop {state:=.busy,pending:=pe2,fn:=fn2,tmps:=(ofF N2 fr2).tmps,params:=ps2.toArray,assign:=as2,body:=bd2,defers:=dfr2});have hlt2:=(q4.ok _ _ _ hg2).2.1;have hL2:=X7.put (vo':=.loop N2 f2' T2 pl2 ps2 as2 bd2 1 pe2) (o':=.loop {state:=.busy,pending:=pe2,fn:=fn2,tmps:=(ofF N2 fr2).tmps,params:=ps2.toArray,assign:=as2,body:=bd2,defers:=dfr2}) q4 hg2 hj2 hlt2 ⟨gd3,gd4,fr2,fn2,dfr2,hfr2,rfl⟩;have hF2:FOk ρ1 (D.upto n n2) (Fence.wide.inRound (ρ1.at_ b)) (some b):=⟨rfl,D.le_upto n n2 b hb⟩
      refine(D2j hm gd2.1 hcal k bd ρ1 (D.upto n n2) n2 f2 _ f1 i1 _ ex _ _ gd2.2 q3 (hG.ext q1 (D.le_upto n n2)) hL2 (hD.upto q2) hF2 hev2).use _ _ hs2 _ fun rs2 e3 f3 i3 L3 w3 hi3 hs3 q=>?_
      obtain⟨rfl,ρ3,r1,r2,r3,r4,-⟩:=q;simp only at r2 r3 r4;have hat3:ρ3.at_ b=ρ1.at_ b:=r1.at_ b (D.le_upto n n2 b hb);obtain⟨ob4,j4,⟨gd5,gd6,fr4,fn4,dfr4,hfr4,rfl⟩,hj4⟩:=X7.own r4 hg4;have hl4:=hs3.own _ (E9g hj4);simp only at hl4;have hlt4:=(r4.ok _ _ _ hg4).2.1;have hE:Ext D ρ ρ3:=q1.trans r1 (D.le_upto n n2);rw[←hat3]
      have fin:∀(jump:Option Code)(st:Nat)(c:Bool),c=jump.isNone→E2u st=(if jump.isNone then .ready else .done)→e=⟨some (.bool c),set b (false,.loop N4 f4' T4 pl4 ps4 as4 bd4 st jump) h4,n4⟩→
       ∃v w',(Instr.endRound (ρ3.at_ b) jump).run P w3=.ok v w'∧∃c i' L',Ending.returned v=.returned (.bool c)∧i.le i'∧St i' L' w'∧G3 ρ D n e (.bool c) i' L':=by
       intro jump st c hc hst he;refine⟨_,_,run_endRound jump hl4,c,i3,_,by rw[hc],hi1.trans hi3,St.putObj hs3 hj4 _,?_⟩;subst he;refine⟨ρ3,hE,Nat.le_trans q2 r2,?_,fun v hv=>by cases hv;exact⟨by simp only[VV.lt],by simp only[C2]⟩⟩;exact LayP.mono (X7.put (vo':=.loop N4 f4' T4 pl4 ps4 as4 bd4 st jump) r4 hg4 hj4 hlt4 ⟨gd5,gd6,fr4,fn4,dfr4,hfr4,by rw[hst]⟩) (A4c q2 r2)
      cases e3 with
      |normal=>cases he;exact fin none 0 true rfl rfl rfl
      |ret=>cases he;exact fin (some .ret) 2 false rfl rfl rfl
      |exit jj=>cases he;exact fin (some (.exit jj)) 2 false rfl rfl rfl
     ·cases he
    ·cases he
   ·cases he
  ·cases he
 ·cases he
end
theorem D6m{P:Program}{F:B4v}{G k:Nat}(hm:P.follows .mixedOrders=true)(hF:F.ok P G):∀d,CalOk P (A5y P) G (C2j F G k d):=by
 intro d;induction d with
 |zero=>exact⟨fun g vs h n e he=>(by cases he),fun g vs h n e he=>(by cases he),fun g vs h n e he=>(by cases he)⟩
 |succ d ih=>
  refine⟨fun g vs h n e he ρ D i L hD hG hL hvs=>?_,fun g vs h n e he ρ D i L hD hG hL hvs=>?_,fun b vs h n e he ρ D i L hD hG hL hb hvs=>?_⟩
  ·rw[B2k] at he;unfold act at he;simp only at he;split at he
   ·rename_i fn pl T hfn;obtain⟨hf,hok,hpl,hT⟩:=hF g _ hfn;exact .inl ⟨hok,D7d hm ih hf hpl hT he hD hG hL hvs⟩
   ·rename_i c hc;exact hF g _ hc vs h n e he ρ D i L hD hG hL hvs
   ·cases he
  ·rw[B2k] at he;unfold act at he;simp only at he;split at he
   ·rename_i fn pl T hfn;obtain⟨hf,hok,hpl,hT⟩:=hF g _ hfn;exact⟨hok,D7d hm ih hf hpl hT he hD hG hL hvs⟩
   ·cases he
  ·rw[B2k] at he;unfold act at he;exact E5d hm ih he hD hG hL hb hvs
end
noncomputable section
open Go Go.Eng
def D8g(c:Nat):List Nat→Nat→Nat
 |[],k=>k
 |a::l,k=>bif E9p (F1m a 256) c then D8g c l (Nat.succ k) else D8g c l k
def B0t(vs:List VV)(h:VH)(n:Nat):Option Eff:=
 match vs with
 |[.str s,.int .u8 (.ofNat c)]=>bif F0e c 256 then some ⟨some (.int .i64 (.ofNat (D8g c s 0))),h,n⟩ else none
 |_=>none
def idxB(c:Nat):List Nat→Nat→Option Nat
 |[],_=>none
 |a::l,k=>bif E9p (F1m a 256) c then some k else idxB c l (Nat.succ k)
def A1v(vs:List VV)(h:VH)(n:Nat):Option Eff:=
 match vs with
 |[.str s,.int .u8 (.ofNat c)]=>bif F0e c 256 then some ⟨some (.int .i64 (match idxB c s 0 with|some k=>.ofNat k|none=> -1)),h,n⟩ else none
 |_=>none
end
noncomputable section
open Go Go.Eng Go.Lib
section
variable{P:Program}{G g:Nat}{fn:Func}{e:Array Value→Sem Value}{c:List VV→VH→Nat→Option Eff}
theorem C1r(hf:P.funcs[g]?=some fn)(hname:(fn.name== "runtime.NumGoroutine")=false)(hb:fn.body.isNone=true)(hn:Extern.findNext fn=none)(he:Extern.find fn=some e)
 (hc:∀vs h n eff,c vs h n=some eff→∃v,eff=⟨some v,h,n⟩∧(∀D:J8,v.lt D)∧∀(ρ:Loc)(w:World),(e (C3 ρ vs).toArray).run P w=.ok (C2 ρ v) w):V5 P G g c:=by
 intro vs h n eff hcc ρ D i L hD hG hL hvs;obtain⟨v,rfl,hlt,hr⟩:=hc vs h n eff hcc;refine .inr fun w hw=>⟨C2 ρ v,w,i,L,?_,Imm.le.refl i,hw,Y6 hL (hlt D)⟩
 rw[run_callFunc_extern hf hname hb hn he,hr];rfl
theorem D6u(c:Nat)(hc:c<256):∀(s:List Nat)(k:Nat),D8g c s k=k+countByte (bytesOf s).data.toList c.toUInt8
 |[],k=>by simp[D8g,bytesOf,countByte]
 |a::s,k=>by
  have ih:=D6u c hc s;have e1:(bytesOf (a::s)).data.toList=F0d a::(bytesOf s).data.toList:=by simp[bytesOf]
  have e2:(F0d a==c.toUInt8)=E9p (F1m a 256) c:=by
   cases hb:E9p (F1m a 256) c with
   |true=>
    have h1:a % 256=c:=E9m hb
    have:F0d a=c.toUInt8:=by
     show F0d a=F0d c;rw[A4e];omega
    simp[this]
   |false=>
    have:F0d a≠c.toUInt8:=fun e=>by
     have h1:a % 256=c % 256:=A4e.1 e;have h2:F1m a 256=c:=by show a % 256=c;omega
     rw[h2] at hb;simp at hb
    simpa using this
  rw[e1];unfold countByte;rw[List.count_cons,e2];simp only[D8g];cases hb:E9p (F1m a 256) c with
  |true=>
   simp only[cond_true,if_true,ih];unfold countByte;omega
  |false=>
   simp only[cond_false,ih];unfold countByte;simp
theorem D1b(hf:P.funcs[g]?=some fn)(hname:(fn.name== "runtime.NumGoroutine")=false)(hb:fn.body.isNone=true)(hn:Extern.findNext fn=none)(he:Extern.find fn=some Extern.BytealgCount.count):V5 P G g B0t:=by
 refine C1r hf hname hb hn he fun vs h n eff hcc=>?_
 unfold B0t at hcc;split at hcc
 ·rename_i s c;cases hb:F0e c 256 with
  |false=>rw[hb] at hcc;cases hcc
  |true=>
   rw[hb] at hcc;cases hcc;have hc:c<256:=by simpa [F1j] using hb
   refine⟨_,rfl,fun D=>by simp only[VV.lt],fun ρ w=>?_⟩;simp only[C3,C2];rw[run_countString,D6u c hc s 0];simp
 ·cases hcc
theorem D6f(c:Nat)(hc:c<256):∀(s:List Nat)(k:Nat),idxB c s k=((List.range s.length).find? fun i=>s[i]?.map (fun a=>a % 256)==some c).map (· +k)
 |[],k=>by simp[idxB]
 |a::s,k=>by
  rw[F1h,find_range_succ];simp only[idxB];cases hb:E9p (F1m a 256) c with
  |true=>
   have h1:a % 256=c:=E9m hb;simp[h1]
  |false=>
   have h1:¬a % 256=c:=fun e=>by
    have:F1m a 256=c:=e
    rw[this] at hb;simp at hb
   simp only[cond_false,D6f c hc s (Nat.succ k)];simp[h1];congr 1;funext x;simp only[Function.comp];omega
theorem B4z(hf:P.funcs[g]?=some fn)(hname:(fn.name== "runtime.NumGoroutine")=false)(hb:fn.body.isNone=true)(hn:Extern.findNext fn=none)(he:Extern.find fn=some Extern.BytealgIndexByte.indexByte):V5 P G g A1v:=by
 refine C1r hf hname hb hn he fun vs h n eff hcc=>?_
 unfold A1v at hcc;split at hcc
 ·rename_i s c;cases hb:F0e c 256 with
  |false=>rw[hb] at hcc;cases hcc
  |true=>
   rw[hb] at hcc;cases hcc;have hc:c<256:=by simpa [F1j] using hb
   refine⟨_,rfl,fun D=>by simp only[VV.lt],fun ρ w=>?_⟩;simp only[C3,C2];rw[run_indexByte_string,D6f c hc s 0];have hlen:(bytesOf s).size=s.length:=by unfold bytesOf;show(s.map F0d).toArray.size=_;simp
   have e1:((List.range (bytesOf s).size).find? fun i=>(bytesOf s)[i]! ==(Int.ofNat c).toNat.toUInt8)=(List.range s.length).find? fun i=>s[i]?.map (fun a=>a % 256)==some c:=by
    rw[hlen]
    have:∀(l:List Nat),(∀i∈l,i<s.length)→(l.find? fun i=>(bytesOf s)[i]! ==(Int.ofNat c).toNat.toUInt8)=l.find? fun i=>s[i]?.map (fun a=>a % 256)==some c:=by
     intro l;induction l with
     |nil=>intro _;rfl
     |cons x l ih=>
      intro hl;have hx:=hl x (by simp)
      have e2:((bytesOf s)[x]! ==(Int.ofNat c).toNat.toUInt8)=(s[x]?.map (fun a=>a % 256)==some c):=by
       have h1:(bytesOf s)[x]! =F0d s[x]:=by
        have h2:(bytesOf s).data[x]?=some (F0d s[x]):=by
         show((s.map F0d).toArray)[x]?=_
         rw[List.getElem?_toArray,F0k,E9v hx];rfl
        have h3:x<(bytesOf s).size:=by rw[hlen];exact hx
        rw[getElem!_pos (bytesOf s) x h3];have h4:(bytesOf s).data[x]?=some ((bytesOf s)[x]'h3):=Array.getElem?_eq_getElem (show x<(bytesOf s).data.size from h3);rw[h4] at h2;exact Option.some.inj h2
       rw[h1,E9v hx,F1q];have h5:(Int.ofNat c).toNat.toUInt8=F0d c:=rfl;rw[h5];have h6:=A4e (a:=s[x]) (b:=c);by_cases h7:s[x] % 256=c
       ·have:F0d s[x]=F0d c:=h6.2 (by omega)
        rw[this,h7];simp
       ·have:F0d s[x]≠F0d c:=fun e=>h7 (by have:=h6.1 e;omega)
        have h8:(F0d s[x]==F0d c)=false:=by simpa using this
        rw[h8];simp[h7]
      rw[List.find?_cons,List.find?_cons,e2,ih fun i hi=>hl i (E9u _ hi)]
    exact this _ fun i hi=>List.mem_range.1 hi
   unfold firstIdx;rw[e1];cases (List.range s.length).find? fun i=>s[i]?.map (fun a=>a % 256)==some c<;>simp
 ·cases hcc
end
end
noncomputable section
open Go Go.Eng
abbrev HL:=List (Nat×Bool×VO)
def eqEs:VEs→VEs→Bool
 |[],[]=>true
 |(a,b,n)::l,(c,d,m)::r=>A1h a c&&A1h b d&&E9p n m&&eqEs l r
 |_,_=>false
theorem D6t:∀{a b:VEs},eqEs a b=true→a=b
 |[],[],_=>rfl
 |[],_::_,h=>by cases h
 |_::_,[],h=>by cases h
 |(a,b,n)::l,(c,d,m)::r,h=>by
  simp only[eqEs,E9j] at h;obtain⟨⟨⟨h1,h2⟩,h3⟩,h4⟩:=h;rw[A7t _ _ h1,A7t _ _ h2,E9m h3,D6t h4]
def eqVO:VO→VO→Bool
 | .cells l t s,.cells l' t' s'=>E9p t t'&&E9p s s'&&B4t l l'
 | .row l t s,.row l' t' s'=>E9p t t'&&E9p s s'&&B4t l l'
 | .map es c,.map es' c'=>E9p c c'&&eqEs es es'
 |_,_=>false
theorem eqVO_ok{a b:VO}(h:eqVO a b=true):a=b:=by
 unfold eqVO at h;split at h
 ·simp only[E9j] at h;obtain⟨⟨h1,h2⟩,h3⟩:=h;rw[E9m h1,E9m h2,A2x _ _ h3]
 ·simp only[E9j] at h;obtain⟨⟨h1,h2⟩,h3⟩:=h;rw[E9m h1,E9m h2,A2x _ _ h3]
 ·simp only[E9j] at h;obtain⟨h1,h2⟩:=h;rw[E9m h1,D6t h2]
 ·cases h
def mkH:HL→VH
 |[]=>.lf
 |(k,x)::r=>set k x (mkH r)
theorem C3r:∀{l:HL}{k:Nat}{x:Bool×VO},get k (mkH l)=some x→(k,x)∈l
 |[],k,x,h=>by rw[mkH,A4v] at h;cases h
 |(k0,x0)::r,k,x,h=>by
  rw[mkH] at h;rcases A1m h with⟨rfl,rfl⟩|⟨_,h⟩
  ·exact F0g ..
  ·exact E9u _ (C3r h)
def isAt(p:Nat×Bool×VO):Option (Bool×VO)→Bool
 |some (fz,vo)=>(fz==p.2.1)&&eqVO vo p.2.2
 |none=>false
def D8d:HL→VH→Bool
 |[],_=>true
 |p::r,h=>isAt p (get p.1 h)&&D8d r h
theorem C3j:∀{l:HL}{h:VH},D8d l h=true→∀p∈l,get p.1 h=some p.2
 |[],_,_,p,hp=>by cases hp
 |q::r,h,hs,p,hp=>by
  simp only[D8d,E9j] at hs;rcases F0b.1 hp with rfl|hp
  ·have h1:=hs.1;unfold isAt at h1;split at h1
   ·rename_i fz vo hg;simp only[E9j,beq_iff_eq] at h1;rw[hg,h1.1,eqVO_ok h1.2]
   ·cases h1
  ·exact C3j hs.2 p hp
def C2x:HL→VH→VH
 |[],h=>h
 |p::r,h=>C2x r (del p.1 h)
theorem B8v:∀{l:HL}{h:VH}{k:Nat}{x:Bool×VO},get k (C2x l h)=some x→get k h=some x∧∀p∈l,p.1≠k
 |[],h,k,x,hg=>⟨hg,fun p hp=>by cases hp⟩
 |q::r,h,k,x,hg=>by
  obtain⟨h1,h2⟩:=B8v (l:=r) hg;obtain⟨h3,h4⟩:=A1n h1;refine⟨h4,fun p hp=>?_⟩;rcases F0b.1 hp with rfl|hp
  ·exact fun e=>h3 e.symm
  ·exact h2 p hp
def B6f:HL→VH→VH
 |[],h=>h
 |(k,x)::r,h=>set k x (B6f r h)
theorem B8q:∀{l:HL}{h:VH}{k:Nat}{x:Bool×VO},get k (B6f l h)=some x→(k,x)∈l∨get k h=some x
 |[],h,k,x,hg=>.inr hg
 |(k0,x0)::r,h,k,x,hg=>by
  rw[B6f] at hg;rcases A1m hg with⟨rfl,rfl⟩|⟨_,hg⟩
  ·exact .inl (F0g ..)
  ·exact(B8q hg).imp (E9u _) id
structure Memo where
 vs:List VV
 n:Nat
 hr:HL
 v:VV
 hw:HL
 m:Nat
abbrev Con:=List VV→VH→Nat→Option Eff
def A2w(M:Memo):Con:=fun vs h n=>
 bif E9p n M.n&&B4t vs M.vs&&D8d M.hr h then some ⟨some M.v,B6f M.hw (C2x M.hr h),M.m⟩ else none
def B6h(M:Memo):Option Eff→Bool
 |some ⟨some v,h,n⟩=>E9p n M.m&&A1h v M.v&&D8d M.hw h
 |_=>false
theorem D5f.mono{P:Program}{g:FuncId}{args:List Value}{i:Imm}{L:SH}{K K':Value→Imm→SH→Prop}(h:D5f P g args i L K)(hk:∀v i' L',i.le i'→K v i' L'→K' v i' L'):D5f P g args i L K':=by
 rcases h with⟨h1,h2⟩|h
 ·exact .inl ⟨h1,h2.mono hk⟩
 ·refine .inr fun w hw=>?_
  obtain⟨v,w',i',L',h1,h2,h3,h4⟩:=h w hw;exact⟨v,w',i',L',h1,h2,h3,hk v i' L' h2 h4⟩
theorem C3t{P:Program}{G g:Nat}{c:Con}{M:Memo}(hc:V5 P G g c)(hM:B6h M (c M.vs (mkH M.hr) M.n)=true):V5 P G g (A2w M):=by
 intro vs h n e he ρ D i L hD hG hL hvs;unfold A2w at he;cases hb:(E9p n M.n&&B4t vs M.vs&&D8d M.hr h) with
 |false=>rw[hb] at he;cases he
 |true=>
 rw[hb] at he;cases he;simp only[E9j] at hb;obtain⟨⟨b1,b2⟩,b3⟩:=hb;obtain rfl:=E9m b1;obtain rfl:=A2x _ _ b2;have hsub:=C3j b3;have hr:∀k x,get k (mkH M.hr)=some x→get k h=some x:=fun k x hk=>hsub _ (C3r hk)
 unfold B6h at hM;split at hM;case h_2=>cases hM
 rename_i v h1 m he;simp only[E9j] at hM;obtain⟨⟨m1,m2⟩,m3⟩:=hM;obtain rfl:=E9m m1;obtain rfl:=A7t _ _ m2;have hnew:=C3j m3
 classical
 let Kq:List (Nat×Obj):=L.filter fun p=>decide (∃k vo,get k h=some (false,vo)∧(∀q∈M.hr,q.1≠k)∧ρ.at_ k=p.1)
 have hKq:∀p∈Kq,p∈L∧∃k vo,get k h=some (false,vo)∧(∀q∈M.hr,q.1≠k)∧ρ.at_ k=p.1:=fun p hp=>by
  obtain⟨h1,h2⟩:=List.mem_filter.1 hp;exact⟨h1,of_decide_eq_true h2⟩
 have hLr:LayP ρ D (fun k fz vo=>get k (mkH M.hr)=some (fz,vo)) i L:=LayP.sub hL fun k fz vo hk=>hr k _ hk
 have hLw:=hLr.wk (ρ.keep++Kq) fun p hp=>by
  rcases E9r.1 hp with hp|hp
  ·exact hLr.frm p hp
  ·obtain⟨p1,k0,vo0,p2,p3,p4⟩:=hKq p hp;refine⟨p1,fun k vo hk e=>?_⟩
   have:=hL.inj k k0 vo vo0 (hr k _ hk) p2 (e.trans p4.symm)
   subst this;exact p3 _ (C3r hk) rfl
 have hcall:=hc M.vs (mkH M.hr) M.n _ he (ρ.wk (ρ.keep++Kq)) D i L hD (hG.wk _) hLw hvs;rw[Q8 (ρ.wk_ext _ D) M.vs hvs] at hcall;refine hcall.mono ?_;rintro u i' L' hi ⟨ρ',E,hn,hL',hv⟩;simp only at hn hL' hv;have hkeep:ρ'.keep=ρ.keep++Kq:=E.keep;have E2:Ext D ρ (ρ'.wk ρ.keep):=⟨⟨fun b hb=>E.at_ b hb,fun b hb=>E.cap b hb,E.good⟩,rfl⟩
 have old:∀k vo,get k h=some (false,vo)→(∀q∈M.hr,q.1≠k)→∃o,V3 ρ k vo o∧(ρ.at_ k,o)∈L'∧∀k' vo',get k' h1=some (false,vo')→ρ'.at_ k'≠ρ.at_ k:=fun k vo hk hne=>by
  obtain⟨_,_,o,h3,h4⟩:=hL.ok k false vo hk;rw[if_neg (by decide)] at h4
  have hin:(ρ.at_ k,o)∈ρ'.keep:=by
   rw[hkeep];exact List.mem_append_right _ (List.mem_filter.2 ⟨h4,decide_eq_true ⟨k,vo,hk,hne,rfl⟩⟩)
  exact⟨o,h3,(hL'.frm _ hin).1,(hL'.frm _ hin).2⟩
 have atD:∀k,D k→ρ'.at_ k=ρ.at_ k:=fun k hk=>E.at_ k hk
 have split:∀k fz vo,get k (B6f M.hw (C2x M.hr h))=some (fz,vo)→get k h1=some (fz,vo)∨(get k h=some (fz,vo)∧∀q∈M.hr,q.1≠k):=fun k fz vo hk=>by
  rcases B8q hk with hk|hk
  ·exact .inl (hnew _ hk)
  ·exact .inr (B8v hk)
 refine⟨ρ'.wk ρ.keep,E2,hn,⟨fun k fz vo hk=>?_,fun k k' vo vo' hk hk' e=>?_,fun p hp=>⟨?_,fun k vo hk=>?_⟩⟩,fun v' hv'=>?_⟩
 ·rcases split k fz vo hk with hk|⟨hk,hne⟩
  ·obtain⟨a1,a2,o,a3,a4⟩:=hL'.ok k fz vo hk;exact⟨a1,a2,o,a3.ext0 (ρ'.wk_ext ρ.keep _) a1 a2,a4⟩
  ·obtain⟨a1,a2,o,a3,a4⟩:=hL.ok k fz vo hk;refine⟨.inl a1,VO.lt_mono (D.le_upto _ _) a2,?_⟩;cases fz with
   |true=>
    refine⟨o,a3.ext E2 a1 a2,?_⟩;rw[if_pos rfl] at a4⊢;rw[show(ρ'.wk ρ.keep).at_ k=ρ.at_ k from atD k a1];exact hi.blk _ _ a4
   |false=>
    obtain⟨o',b1,b2,_⟩:=old k vo hk hne;refine⟨o',b1.ext E2 a1 a2,?_⟩;rw[if_neg (by decide)];rw[show(ρ'.wk ρ.keep).at_ k=ρ.at_ k from atD k a1];exact b2
 ·rcases split k false vo hk with hk|⟨hk,hne⟩
  ·rcases split k' false vo' hk' with hk'|⟨hk',hne'⟩
   ·exact hL'.inj k k' vo vo' hk hk' e
   ·obtain⟨o',_,_,b3⟩:=old k' vo' hk' hne';exact absurd (e.trans (atD k' (hL.ok k' false vo' hk').1)) (b3 k vo hk)
  ·rcases split k' false vo' hk' with hk'|⟨hk',hne'⟩
   ·obtain⟨o',_,_,b3⟩:=old k vo hk hne;exact absurd (e.symm.trans (atD k (hL.ok k false vo hk).1)) (b3 k' vo' hk')
   ·exact hL.inj k k' vo vo' hk hk' ((atD k (hL.ok k false vo hk).1).symm.trans (e.trans (atD k' (hL.ok k' false vo' hk').1)))
 ·exact(hL'.frm p (by rw[hkeep];exact F1p _ hp)).1
 ·rcases split k false vo hk with hk|⟨hk,hne⟩
  ·exact(hL'.frm p (by rw[hkeep];exact F1p _ hp)).2 k vo hk
  ·have:=(hL.frm p hp).2 k vo hk
   exact fun e=>this ((atD k (hL.ok k false vo hk).1).symm.trans e)
 ·cases hv';obtain⟨c1,c2⟩:=hv M.v rfl;refine⟨c1,?_⟩;rw[S4 (ρ'.wk_ext ρ.keep _) M.v c1];exact c2
def D5e(a b:Con):Con:=fun vs h n=>match a vs h n with
 |some e=>some e
 |none=>b vs h n
theorem C9j{P:Program}{G g:Nat}{a b:Con}(ha:V5 P G g a)(hb:V5 P G g b):V5 P G g (D5e a b):=by
 intro vs h n e he;unfold D5e at he;split at he
 ·rename_i e' hq;cases he;exact ha vs h n _ hq
 ·exact hb vs h n e he
theorem B7x{P:Program}{F:B4v}{G k:Nat}(hm:P.follows .mixedOrders=true)(hF:F.ok P G)(d g:Nat):V5 P G g (C2j F G k d (.fn g)):=
 fun vs h n e he ρ D i L hD hG hL hvs=>(D6m hm hF d).fn g vs h n e he ρ D i L hD hG hL hvs
def B4v.over(F:B4v)(g:Nat)(x:Ent):B4v:=fun k=>bif E9p k g then some x else F k
theorem C5h{P:Program}{G:Nat}{F:B4v}(hF:F.ok P G){g:Nat}{c:Con}(hc:V5 P G g c):(F.over g (.con c)).ok P G:=by
 intro k x hx;unfold B4v.over at hx;cases hb:E9p k g with
 |true=>
  rw[hb] at hx;obtain rfl:=E9m hb;cases hx;exact hc
 |false=>
  rw[hb] at hx;exact hF k x hx
def E3d{α:Type}(p:Nat→α→Prop):Tr α→Prop
 | .lf=>True
 | .nd l v r=>E3d p l∧(∀n a,v=some (n,a)→p n a)∧E3d p r
theorem B2p{α:Type}{p:Nat→α→Prop}:∀(q:Pth){t:Tr α}{n:Nat}{a:α},E3d p t→D1w q t=some (n,a)→p n a
 | .e,.lf,n,a,_,h=>by cases h
 | .e,.nd l v r,n,a,h,k=>h.2.1 n a k
 | .o q,.lf,n,a,_,h=>by cases h
 | .o q,.nd l v r,n,a,h,k=>B2p q h.1 k
 | .i q,.lf,n,a,_,h=>by cases h
 | .i q,.nd l v r,n,a,h,k=>B2p q h.2.2 k
theorem E6r{α:Type}{p:Nat→α→Prop}{t:Tr α}{n:Nat}{a:α}(h:E3d p t)(k:get n t=some a):p n a:=by
 unfold get chk at k;cases hq:D1w (A2r A2t n) t with
 |none=>rw[hq] at k;cases k
 |some x=>
  obtain⟨m,b⟩:=x;rw[hq] at k;simp only at k;cases hb:E9p m n with
  |false=>rw[hb] at k;cases k
  |true=>
   rw[hb] at k;cases k;obtain rfl:=E9m hb;exact B2p _ h hq
def D2c(e:Option Eff):Bool:=match e with
 |some ⟨some (.bool b),_,_⟩=>b
 |_=>false
theorem E5u{P:Program}{F:B4v}{G k d g:Nat}(hm:P.follows .mixedOrders=true)(hF:F.ok P G)(h:D2c (C2j F G k d (.it g) [] .lf G)=true)(i:Imm)(L:SH):E6 P g [] i L fun r i' L'=>r=.bool true∧L'=L:=by
 unfold D2c at h;split at h;case h_2=>cases h
 rename_i b h1 m he;subst h;let ρ:Loc:=⟨id,fun _=>0,L,A5y P⟩;have hL:X7 ρ (fun b=>b<G) .lf i L:=⟨fun k fz vo hk=>(by rw[A4v] at hk;cases hk),fun k k' vo vo' hk _ _=>(by rw[A4v] at hk;cases hk),fun p hp=>⟨hp,fun k vo hk=>(by rw[A4v] at hk;cases hk)⟩⟩;have hc:=((D6m hm hF d).it g [] .lf G _ he ρ (fun b=>b<G) i L (fun b hb=>hb) ⟨rfl,fun b hb=>hb,fun b _=>rfl⟩ hL (by simp only[C5])).2;intro w hw
 refine(hc w hw).mono ?_
 rintro e w' ⟨v,i',L',rfl,hi,hs,ρ',E,_,hl,hv⟩;have hk:∀p∈L,p∈L':=fun p hp=>(hl.frm p (by rw[E.keep];exact hp)).1
 refine⟨v,i',L,rfl,hi,⟨hs.os,hs.tape,hs.output,hs.imm,hw.nodup,fun p hp=>hs.own p (hk p hp),fun p hp=>hs.sep p (hk p hp)⟩,?_,rfl⟩
 have:=(hv _ rfl).2
 simpa only[C2] using this
end
noncomputable section
open Go Go.Eng Go.Lib
def mapK{β:Type}(f:Nat→Nat)(l:List Nat):(List Nat→β)→β:=
 List.rec (fun k=>k []) (fun a _ ih k=>ih fun r=>Nat.rec (k (0::r)) (fun m _=>k (Nat.succ m::r)) (f a)) l
theorem D6d{β:Type}(f:Nat→Nat):∀(l:List Nat)(k:List Nat→β),mapK f l k=k (l.map f)
 |[],k=>rfl
 |a::l,k=>by
  have ih:=D6d f l (fun r=>(Nat.rec (k (0::r)) (fun m _=>k (Nat.succ m::r)) (f a):β));refine Eq.trans ih ?_;simp only[F0w];cases f a<;>rfl
def lowB(a:Nat):Nat:=bif F0n 65 (F1m a 256)&&F0n (F1m a 256) 90 then Nat.add (F1m a 256) 32 else F1m a 256
def E4f(l:List Nat):Bool:=l.all fun a=>F0e (F1m a 256) 128
def B0r:Con:=fun vs h n=>
 match vs with
 |[.str s]=>bif E4f s&&F0n s.length 1000000 then mapK lowB s (fun r=>some ⟨some (.str r),h,n⟩) else none
 |_=>none
def B5h(t:Nat):Con:=fun vs h n=>
 match vs with
 |[.iface t' .nils,.fn _ _ _]=>bif E9p t t' then some ⟨some (.tup []),h,n⟩ else none
 |[.iface t' (.sl _ _ l _),.fn _ _ _]=>bif E9p t t'&&F0n l 1 then some ⟨some (.tup []),h,n⟩ else none
 |[.iface t' (.sle _ _ _ _),.fn _ _ _]=>bif E9p t t' then some ⟨some (.tup []),h,n⟩ else none
 |_=>none
theorem lowB_ok(a:Nat):F0d (lowB a)=lowerB (F0d a):=by
 apply UInt8.toNat_inj.1;unfold lowB lowerB isUpperB;have h1:(65≤F0d a)=(65≤a % 256):=by simp[UInt8.le_iff_toNat_le]
 have h2:(F0d a≤90)=(a % 256≤90):=by simp[UInt8.le_iff_toNat_le]
 have e:∀x y,F0n x y=decide (x≤y):=fun x y=>Bool.eq_iff_iff.2 (by simp)
 rw[e,e];simp only[h1,h2];by_cases g:65≤a % 256∧a % 256≤90
 ·have:(decide (65≤F1m a 256)&&decide (F1m a 256≤90))=true:=(show(decide (65≤a % 256)&&decide (a % 256≤90))=true from by simpa using g)
  rw[this,if_pos (show(decide (65≤a % 256)&&decide (a % 256≤90))=true from this)]
  show(F0d (a % 256+32)).toNat=_
  rw[UInt8.toNat_add];simp
 ·have:(decide (65≤F1m a 256)&&decide (F1m a 256≤90))=false:=by
   rw[Bool.eq_false_iff];intro h;exact g (by have h:(decide (65≤a % 256)&&decide (a % 256≤90))=true:=h;simpa using h)
  rw[this,if_neg (show ¬(decide (65≤a % 256)&&decide (a % 256≤90))=true from by rw[show(decide (65≤a % 256)&&decide (a % 256≤90))=false from this];decide)]
  show(F0d (a % 256)).toNat=_
  simp
theorem lowS_ok(s:List Nat):bytesOf (s.map lowB)=⟨(toLowerA (bytesOf s).data.toList).toArray⟩:=by
 unfold bytesOf toLowerA;congr 1;simp only[List.map_map];congr 1;exact List.map_congr_left fun a _=>lowB_ok a
theorem D1a{P:Program}{G g:Nat}(hok:Z2 P g=true)
 (hc:∀(s:ByteArray)(i:Imm)(L:SH),s.size≤140737488355328→(∀(j:Nat)(b:UInt8),s.data.toList[j]?=some b→b.toNat<128)→E6 P g [.string s] i L fun r i' L'=>r=.string ⟨(toLowerA s.data.toList).toArray⟩∧i'=i∧L'=L):V5 P G g B0r:=by
 intro vs h n e he ρ D i L hD hG hL hvs;unfold B0r at he;split at he
 ·rename_i s;cases hb:(E4f s&&F0n s.length 1000000) with
  |false=>rw[hb] at he;cases he
  |true=>
   rw[hb] at he;simp only[cond_true,D6d] at he;cases he;simp only[E9j] at hb;obtain⟨b1,b2⟩:=hb;have b2:=E9w b2;refine .inl ⟨hok,?_⟩;simp only[C3,C2]
   refine(hc (bytesOf s) i L (by rw[U7];omega) fun j b hj=>?_).mono ?_
   ·have h1:(bytesOf s).data.toList=s.map F0d:=by simp[bytesOf]
    rw[h1,F0k] at hj;obtain⟨a,ha,rfl⟩:=Option.map_eq_some_iff.1 hj
    have:=F0c.1 b1 a (E9g ha)
    rw[F1j] at this
    have:a % 256<128:=this
    simpa using this
   ·rintro r i' L' _ ⟨rfl,rfl,rfl⟩;refine⟨ρ,Ext.refl D ρ,E9q n,hL.mono (D.le_upto n n),fun v hv=>?_⟩;cases hv;exact⟨by simp only[VV.lt],by simp only[C2,lowS_ok]⟩
 ·cases he
theorem D3u{P:Program}{G g t:Nat}(hok:Z2 P g=true)
 (hc:∀(p:Option Addr)(l c:Nat)(lf:Fn)(la lb:Array Value)(i:Imm)(L:SH),l≤1→E6 P g [.iface t (.slice p l c),.func lf la lb] i L fun r i' L'=>r=.tuple #[]∧i'=i∧L'=L):V5 P G g (B5h t):=by
 intro vs h n e he ρ D i L hD hG hL hvs
 have post:∀(r:Value)(i':Imm)(L':SH),r=.tuple #[]∧i'=i∧L'=L→G3 ρ D n ⟨some (.tup []),h,n⟩ r i' L':=by
  rintro r i' L' ⟨rfl,rfl,rfl⟩;refine⟨ρ,Ext.refl D ρ,E9q n,hL.mono (D.le_upto n n),fun v hv=>?_⟩;cases hv;exact⟨by simp only[VV.lt,C5],by simp only[C2,C3]⟩
 unfold B5h at he;split at he
 ·rename_i t' f fs cs;cases hb:E9p t t' with
  |false=>rw[hb] at he;cases he
  |true=>
   rw[hb] at he;cases he;obtain rfl:=E9m hb;refine .inl ⟨hok,?_⟩;simp only[C3,C2];exact(hc none 0 0 f _ _ i L (by omega)).mono fun r i' L' _ k=>post r i' L' k
 ·rename_i t' b o l c f fs cs;cases hb:(E9p t t'&&F0n l 1) with
  |false=>rw[hb] at he;cases he
  |true=>
   rw[hb] at he;cases he;simp only[E9j] at hb;obtain rfl:=E9m hb.1
   have:=E9w hb.2
   refine .inl ⟨hok,?_⟩;simp only[C3,C2];exact(hc _ l _ f _ _ i L this).mono fun r i' L' _ k=>post r i' L' k
 ·rename_i t' b o o' j f fs cs;cases hb:E9p t t' with
  |false=>rw[hb] at he;cases he
  |true=>
   rw[hb] at he;cases he;obtain rfl:=E9m hb;refine .inl ⟨hok,?_⟩;simp only[C3,C2];exact(hc _ 0 _ f _ _ i L (by omega)).mono fun r i' L' _ k=>post r i' L' k
 ·cases he
end
end Go.Eng.Ev
