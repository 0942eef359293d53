/- Joined contracts. No conditions. -/
import Derived.Test.YtdehaommhbjakaaGreatC01
namespace Go.Proofs.YtdehaommhbjakaaGreat
open RowKit Stg
abbrev Ext:=Int×Int
def proper (e:Ext):Prop:=0≤e.1∧0<e.2∧e.1+e.2≤1048576
def bw (x:Int) (e:Ext):Prop:=e.1≤x∧x<e.1+e.2
def bB (x:Int) (s:List Ext):Prop:=∃e∈s,bw x e
def VS (s:List Ext):Prop:=(∀e∈s,proper e)∧s.Pairwise fun a b=>a.1+a.2<b.1
theorem VS.nil:VS []:=⟨by simp,List.Pairwise.nil⟩
theorem VS.tail {a:Ext} {s:List Ext} (h:VS (a::s)):VS s:=⟨fun e he=>h.1 e (by simp[he]),(List.pairwise_cons.1 h.2).2⟩
theorem VS.head {a:Ext} {s:List Ext} (h:VS (a::s)):proper a∧∀b∈s,a.1+a.2<b.1:=⟨h.1 a (by simp),(List.pairwise_cons.1 h.2).1⟩
theorem VS.cons {a:Ext} {s:List Ext} (h:VS s) (ha:proper a) (hb:∀b∈s,a.1+a.2<b.1):VS (a::s):=
 ⟨fun e he=>by rcases List.mem_cons.1 he with rfl|h1;exact ha;exact h.1 e h1,List.pairwise_cons.2 ⟨hb,h.2⟩⟩
theorem VS.sub {s t:List Ext} (h:VS s) (hs:t.Sublist s):VS t:=⟨fun e he=>h.1 e (hs.subset he),h.2.sublist hs⟩
theorem VS.append {s t:List Ext} (hs:VS s) (ht:VS t) (h:∀a∈s,∀b∈t,a.1+a.2<b.1):VS (s++t):=
 ⟨fun e he=>by rcases List.mem_append.1 he with h1|h1;exact hs.1 e h1;exact ht.1 e h1,List.pairwise_append.2 ⟨hs.2,ht.2,h⟩⟩
theorem VS.apart {s t:List Ext} (h:VS (s++t)):VS s∧VS t∧∀a∈s,∀b∈t,a.1+a.2<b.1:=
 ⟨h.sub (List.sublist_append_left s t),h.sub (List.sublist_append_right s t),(List.pairwise_append.1 h.2).2.2⟩
theorem kK (x:Int):¬bB x []:=by rintro⟨e,he,_⟩;cases he
theorem fj {x:Int} {a:Ext} {s:List Ext}:bB x (a::s)↔bw x a∨bB x s:=by
 constructor
 ·rintro⟨e,he,h⟩;rcases List.mem_cons.1 he with rfl|h1
  ·exact .inl h
  ·exact .inr ⟨e,h1,h⟩
 ·rintro(h|⟨e,he,h⟩)
  ·exact⟨a,by simp,h⟩
  ·exact⟨e,by simp[he],h⟩
theorem iE {x:Int} {s t:List Ext}:bB x (s++t)↔bB x s∨bB x t:=by
 constructor
 ·rintro⟨e,he,h⟩;rcases List.mem_append.1 he with h1|h1
  ·exact .inl ⟨e,h1,h⟩
  ·exact .inr ⟨e,h1,h⟩
 ·rintro(⟨e,he,h⟩|⟨e,he,h⟩)
  ·exact⟨e,by simp[he],h⟩
  ·exact⟨e,by simp[he],h⟩
theorem VS.unique:∀ {s t:List Ext},VS s→VS t→(∀x,bB x s↔bB x t)→s=t
 | [],[],_,_,_=>rfl
 | [],b::t,_,ht,h=>by
  have hb:=ht.head.1;exact absurd ((h b.1).2 (fj.2 (.inl (by unfold bw;unfold proper at hb;omega)))) (kK _)
 |a::s,[],hs,_,h=>by
  have ha:=hs.head.1;exact absurd ((h a.1).1 (fj.2 (.inl (by unfold bw;unfold proper at ha;omega)))) (kK _)
 |a::s,b::t,hs,ht,h=>by
  obtain⟨pa,ga⟩:=hs.head;obtain⟨pb,gb⟩:=ht.head;unfold proper at pa pb;have low:∀ {c:Ext} {u:List Ext},VS (c::u)→∀x,bB x (c::u)→c.1≤x:=by
   intro c u hu x hx;have hc:=hu.head;unfold proper at hc;rcases fj.1 hx with h1|⟨e,he,h1⟩
   ·exact h1.1
   ·have:=hc.2 e he;unfold bw at h1;omega
  have dc:∀ {c:Ext} {u:List Ext},VS (c::u)→¬bB (c.1+c.2) (c::u):=by
   intro c u hu hx;have hc:=hu.head;rcases fj.1 hx with h1|⟨e,he,h1⟩
   ·unfold bw at h1;omega
   ·have:=hc.2 e he;unfold bw at h1;omega
  have e1:a.1=b.1:=by
   have h1:=low ht a.1 ((h a.1).1 (fj.2 (.inl (by unfold bw;omega))));have h2:=low hs b.1 ((h b.1).2 (fj.2 (.inl (by unfold bw;omega))));omega
  have e2:a.2=b.2:=by
   rcases Int.lt_trichotomy a.2 b.2 with hl|hl|hl
   ·exact absurd ((h (a.1+a.2)).2 (fj.2 (.inl (by unfold bw;omega)))) (dc hs)
   ·exact hl
   ·exact absurd ((h (b.1+b.2)).1 (fj.2 (.inl (by unfold bw;omega)))) (dc ht)
  have e:a=b:=Prod.ext e1 e2;subst e;have hst:s=t:=VS.unique hs.tail ht.tail fun x=>by
   have hx:=h x;rw[fj,fj]at hx;constructor
   ·intro h1;rcases hx.1 (.inr h1)with h2|h2
    ·obtain⟨e,he,h1⟩:=h1;have:=ga e he;unfold bw at h1 h2;omega
    ·exact h2
   ·intro h1;rcases hx.2 (.inr h1)with h2|h2
    ·obtain⟨e,he,h1⟩:=h1;have:=gb e he;unfold bw at h1 h2;omega
    ·exact h2
  rw[hst]
def meets (a b:Ext):Prop:=a.1<b.1+b.2∧b.1<a.1+a.2
theorem mY {a b:Ext} (ha:0<a.2) (hb:0<b.2):meets a b↔∃x,bw x a∧bw x b:=by
 unfold meets bw;constructor
 ·intro h;rcases Int.le_total a.1 b.1 with hl|hl
  ·exact⟨b.1,by omega⟩
  ·exact⟨a.1,by omega⟩
 ·rintro⟨x,h1,h2⟩;omega
theorem vo {A C:List Ext} {a x:Ext} (h:VS (A++a::C)) (hx:proper x) (h1:a.1≤x.1) (h2:x.1+x.2≤a.1+a.2):
  VS (A++((if a.1<x.1 then [(a.1,x.1-a.1)]else [])++(if x.1+x.2<a.1+a.2 then [(x.1+x.2,a.1+a.2-(x.1+x.2))]else []))++C)∧
  ∀y,bB y (A++((if a.1<x.1 then [(a.1,x.1-a.1)]else [])++(if x.1+x.2<a.1+a.2 then [(x.1+x.2,a.1+a.2-(x.1+x.2))]else []))++C)↔bB y (A++a::C)∧¬bw y x:=by
 obtain⟨hA,haC,hAC⟩:=h.apart;obtain⟨pa,gC⟩:=haC.head;have hC:=haC.tail;have gA:∀b∈A,b.1+b.2<a.1:=fun b hb=>hAC b hb a (by simp)
 have gAC:∀b∈A,∀c∈C,b.1+b.2<c.1:=fun b hb c hc=>hAC b hb c (by simp[hc])
 unfold proper at pa hx;have zE:VS ((if a.1<x.1 then [(a.1,x.1-a.1)]else [])++(if x.1+x.2<a.1+a.2 then [(x.1+x.2,a.1+a.2-(x.1+x.2))]else [])):=by
  refine VS.append ?_ ?_ ?_
  ·split
   ·exact VS.nil.cons (by unfold proper;simp only;omega) (by simp)
   ·exact VS.nil
  ·split
   ·exact VS.nil.cons (by unfold proper;simp only;omega) (by simp)
   ·exact VS.nil
  ·intro p hp q hq;split at hp<;>split at hq<;>simp at hp hq;subst hp;subst hq;simp only;omega
 have low:∀p∈((if a.1<x.1 then [(a.1,x.1-a.1)]else [])++(if x.1+x.2<a.1+a.2 then [(x.1+x.2,a.1+a.2-(x.1+x.2))]else [])),a.1≤p.1∧p.1+p.2≤a.1+a.2:=by
  intro p hp;rcases List.mem_append.1 hp with h|h
  ·split at h<;>simp at h;subst h;simp only;omega
  ·split at h<;>simp at h;subst h;simp only;omega
 refine⟨(hA.append zE fun b hb p hp=>by have:=gA b hb;have:=low p hp;omega).append hC fun b hb c hc=> ?_,fun y=> ?_⟩
 ·rcases List.mem_append.1 hb with h|h
  ·exact gAC b h c hc
  ·have:=low b h;have:=gC c hc;omega
 ·have hmid:bB y ((if a.1<x.1 then [(a.1,x.1-a.1)]else [])++(if x.1+x.2<a.1+a.2 then [(x.1+x.2,a.1+a.2-(x.1+x.2))]else []))↔bw y a∧¬bw y x:=by
   have k1:∀(c:Prop) [Decidable c] (e:Ext),bB y (if c then [e]else [])↔c∧bw y e:=fun c _ e=>by
    split
    ·rename_i hc;rw[fj];exact⟨fun h=>⟨hc,h.resolve_right (kK _)⟩,fun h=>.inl h.2⟩
    ·rename_i hc;exact⟨fun h=>absurd h (kK _),fun h=>absurd h.1 hc⟩
   rw[iE,k1,k1];unfold bw;simp only;omega
  rw[iE (t:=C),iE (s:=A),hmid,iE (s:=A) (t:=a::C),fj];have d1:∀s:List Ext,(∀b∈s,b.1+b.2<a.1∨a.1+a.2<b.1)→bB y s→¬bw y x:=by
   rintro s hs ⟨b,hb,hy⟩ hyx;have:=hs b hb;unfold bw at hy hyx;omega
  have dA:=d1 A fun b hb=>.inl (gA b hb)
  have dC:=d1 C fun b hb=>.inr (gC b hb)
  constructor
  ·rintro((h|h)|h)
   ·exact⟨.inl h,dA h⟩
   ·exact⟨.inr (.inl h.1),h.2⟩
   ·exact⟨.inr (.inr h),dC h⟩
  ·rintro⟨h|h|h,hn⟩
   ·exact .inl (.inl h)
   ·exact .inl (.inr ⟨h,hn⟩)
   ·exact .inr h
theorem F9 {A C:List Ext} {e:Ext} (hA:VS A) (hC:VS C) (he:proper e) (h1:∀a∈A,a.1+a.2<e.1) (h2:∀c∈C,e.1+e.2<c.1):
  VS (A++e::C)∧∀y,bB y (A++e::C)↔bB y A∨bw y e∨bB y C:=by
 refine⟨hA.append (hC.cons he h2) fun a ha b hb=> ?_,fun y=>by rw[iE,fj]⟩;rcases List.mem_cons.1 hb with rfl|hb
 ·exact h1 a ha
 ·have:=h1 a ha;have:=h2 b hb;unfold proper at he;omega
structure dm (size:Int) (used fr:List Ext):Prop where
 vs:VS fr
 mem:∀x,bB x fr↔0≤x∧x<size∧¬bB x used
theorem dm.unique {size:Int} {used s t:List Ext} (hs:dm size used s) (ht:dm size used t):s=t:=hs.vs.unique ht.vs fun x=>by rw[hs.mem,ht.mem]
theorem dm.same {size:Int} {used used' s:List Ext} (hs:dm size used s) (h:∀x,bB x used↔bB x used'):dm size used' s:=⟨hs.vs,fun x=>by rw[hs.mem,h]⟩
structure cJ (size:Int) (used:List Ext):Prop where
 ok:∀e∈used,proper e∧e.1+e.2≤size
 mL:used.Pairwise fun a b=>¬meets a b
theorem dm.part {size:Int} {used fr:List Ext} (h:dm size used fr) {a:Ext} (ha:a∈fr):0≤a.1∧a.1+a.2≤size∧∀u∈used,0<u.2→¬meets a u:=by
 have pa:=h.vs.1 a ha;unfold proper at pa;have key:∀x,bw x a→0≤x∧x<size∧¬bB x used:=fun x hx=>(h.mem x).1 ⟨a,ha,hx⟩
 have k1:=key a.1 (by unfold bw;omega);have k2:=key (a.1+a.2-1) (by unfold bw;omega);refine⟨k1.1,by omega,fun u hu hu2 hm=> ?_⟩;obtain⟨x,h1,h2⟩:=(mY (by omega) hu2).1 hm;exact(key x h1).2.2 ⟨u,hu,h2⟩
theorem dm.alloc {size:Int} {used A C:List Ext} {a x:Ext} (h:dm size used (A++a::C)) (hu:cJ size used) (hx:proper x) (h1:a.1≤x.1) (h2:x.1+x.2≤a.1+a.2):
  dm size (used++[x]) (A++((if a.1<x.1 then [(a.1,x.1-a.1)]else [])++(if x.1+x.2<a.1+a.2 then [(x.1+x.2,a.1+a.2-(x.1+x.2))]else []))++C)∧cJ size (used++[x]):=by
 obtain⟨hv,hm⟩:=vo h.vs hx h1 h2;have hp:=h.part (a:=a) (by simp);refine⟨⟨hv,fun y=> ?_⟩,?_,?_⟩
 ·rw[hm,h.mem,iE,fj];constructor
  ·rintro⟨⟨k1,k2,k3⟩,k4⟩;exact⟨k1,k2,fun k=>k.elim k3 fun k=>k.elim k4 (kK _)⟩
  ·rintro⟨k1,k2,k3⟩;exact⟨⟨k1,k2,fun k=>k3 (.inl k)⟩,fun k=>k3 (.inr (.inl k))⟩
 ·intro e he;rcases List.mem_append.1 he with h'|h'
  ·exact hu.ok e h'
  ·obtain rfl:=List.mem_singleton.1 h';exact⟨hx,by omega⟩
 ·refine List.pairwise_append.2 ⟨hu.mL,List.pairwise_singleton _ _,fun u hu' b hb=> ?_⟩;obtain rfl:=List.mem_singleton.1 hb;have:=hp.2.2 u hu' (by have:=(hu.ok u hu').1;unfold proper at this;omega);unfold meets at*;omega
theorem qi {A C:List Ext} {e:Ext} {size:Int} (hu:cJ size (A++e::C)):cJ size (A++C)∧∀u∈A++C,¬meets u e:=by
 have hd:=List.pairwise_append.1 hu.mL;have hd2:=List.pairwise_cons.1 hd.2.1;refine⟨⟨fun u h=>hu.ok u ?_,List.pairwise_append.2 ⟨hd.1,hd2.2,fun a ha b hb=>hd.2.2 a ha b (by simp[hb])⟩⟩,fun u h=> ?_⟩
 ·rcases List.mem_append.1 h with h|h<;>simp[h]
 ·rcases List.mem_append.1 h with h|h
  ·exact hd.2.2 u h e (by simp)
  ·have:=hd2.1 u h;unfold meets at*;omega
theorem dm.free {size:Int} {A C fr fr':List Ext} {e:Ext} (h:dm size (A++e::C) fr) (hu:cJ size (A++e::C)) (hv:VS fr') (hm:∀y,bB y fr'↔bB y fr∨bw y e):dm size (A++C) fr':=by
 refine⟨hv,fun y=> ?_⟩;have he:=hu.ok e (by simp);unfold proper at he;rw[hm,h.mem,iE,iE,fj];have hno:=(qi hu).2;have hno':bw y e→¬(bB y A∨bB y C):=fun h1 h2=>by
  have:bB y (A++C):=iE.2 h2;obtain⟨u,hu',hy⟩:=this;have hpu:=(hu.ok u (by rcases List.mem_append.1 hu' with h|h<;>simp[h])).1;unfold proper at hpu;exact hno u hu' ((mY (by omega) (by omega)).2 ⟨y,hy,h1⟩)
 constructor
 ·rintro(⟨k1,k2,k3⟩|k)
  ·exact⟨k1,k2,fun k=>k3 (k.elim .inl fun k=>.inr (.inr k))⟩
  ·exact⟨by unfold bw at k;omega,by unfold bw at k;omega,hno' k⟩
 ·rintro⟨k1,k2,k3⟩;by_cases hy:bw y e
  ·exact .inr hy
  ·exact .inl ⟨k1,k2,fun k=>k.elim (fun k=>k3 (.inl k)) fun k=>k.elim hy fun k=>k3 (.inr k)⟩
end Go.Proofs.YtdehaommhbjakaaGreat
namespace Go.Proofs.YtdehaommhbjakaaGreat
open RowKit Stg
structure tG (s:List Ext) (e:Ext) (A:List Ext) (l r:Option Ext) (C:List Ext):Prop where
 eq:s=A++(l.toList++(r.toList++C))
 ahead:∀a∈A,a.1+a.2<e.1
 left:∀b,l=some b→b.1+b.2=e.1
 right:∀b,r=some b→b.1=e.1+e.2
 behind:∀c∈C,e.1+e.2<c.1
theorem wk {e:Ext} (he:proper e):∀ {s:List Ext},VS s→(∀a∈s,¬meets a e)→∃A l r C,tG s e A l r C
 | [],_,_=>⟨[],none,none,[],rfl,by simp,by simp,by simp,by simp⟩
 |a::s,hs,hno=>by
  have h1:=hno a (by simp);obtain⟨pa,ga⟩:=hs.head;unfold proper at pa he;unfold meets at h1;rcases Int.lt_trichotomy (a.1+a.2) e.1 with hl|hl|hl
  ·obtain⟨A,l,r,C,h⟩:=wk he hs.tail fun b hb=>hno b (by simp[hb])
   refine⟨a::A,l,r,C,by rw[h.eq];rfl,fun b hb=> ?_,h.left,h.right,h.behind⟩;rcases List.mem_cons.1 hb with rfl|hb
   ·exact hl
   ·exact h.ahead b hb
  ·match s,hs,hno,ga with
   | [],_,_,_=>exact⟨[],some a,none,[],rfl,by simp,fun b hb=>by obtain rfl:=Option.some.inj hb;exact hl,by simp,by simp⟩
   |c::t,hs,hno,ga=>
    have h2:=hno c (by simp);have gc:=ga c (by simp);have gt:=hs.tail.head;unfold proper at gt;unfold meets at h2;by_cases hc:c.1=e.1+e.2
    ·exact⟨[],some a,some c,t,rfl,by simp,fun b hb=>by obtain rfl:=Option.some.inj hb;exact hl,fun b hb=>by obtain rfl:=Option.some.inj hb;exact hc,fun d hd=>by have:=gt.2 d hd;omega⟩
    ·refine⟨[],some a,none,c::t,rfl,by simp,fun b hb=>by obtain rfl:=Option.some.inj hb;exact hl,by simp,fun d hd=> ?_⟩;rcases List.mem_cons.1 hd with rfl|hd
     ·omega
     ·have:=gt.2 d hd;omega
  ·by_cases hc:a.1=e.1+e.2
   ·exact⟨[],none,some a,s,rfl,by simp,by simp,fun b hb=>by obtain rfl:=Option.some.inj hb;exact hc,fun d hd=>by have:=ga d hd;omega⟩
   ·refine⟨[],none,none,a::s,rfl,by simp,by simp,by simp,fun d hd=> ?_⟩;rcases List.mem_cons.1 hd with rfl|hd
    ·omega
    ·have:=ga d hd;omega
def fR (l:Option Ext):Int:=l.elim 0 (·.2)
def dP (l:Option Ext) (e:Ext) (r:Option Ext):Ext:=(l.elim e.1 (·.1),fR l+e.2+fR r)
theorem uX {s:List Ext} {e:Ext} {A C:List Ext} {l r:Option Ext} (h:tG s e A l r C) (hs:VS s) (he:proper e):
  VS (A++dP l e r::C)∧∀y,bB y (A++dP l e r::C)↔bB y s∨bw y e:=by
 obtain⟨rfl,h1,h2,h3,h4⟩:=h;obtain⟨hA,hB,hAB⟩:=hs.apart;obtain⟨hl,hB,hlB⟩:=hB.apart;obtain⟨hr,hC,hrC⟩:=hB.apart;unfold proper at he;have one:∀y (o:Option Ext),bB y o.toList↔∃b,o=some b∧bw y b:=fun y o=>by cases o<;>simp[bB]
 have main:proper (dP l e r)∧(∀a∈A,a.1+a.2<(dP l e r).1)∧(∀c∈C,(dP l e r).1+(dP l e r).2<c.1)∧∀y,bw y (dP l e r)↔bB y l.toList∨bw y e∨bB y r.toList:=by
  cases l with
  |none=>cases r with
   |none=>exact⟨by unfold dP fR proper;simp;omega,fun a ha=>h1 a ha,fun c hc=>by have:=h4 c hc;unfold dP fR;simp;omega,fun y=>by simp only[one];unfold dP fR bw;simp⟩
   |some d=>
    have pd:=hr.1 d (by simp);have e3:=h3 d rfl;unfold proper at pd;refine⟨by unfold dP fR proper;simp;omega,fun a ha=>h1 a ha,fun c hc=> ?_,fun y=>by rw[one,one];unfold dP fR bw;simp;omega⟩;have:=hrC d (by simp) c hc;unfold dP fR;simp;omega
  |some b=>
   have pb:=hl.1 b (by simp);have e2:=h2 b rfl;unfold proper at pb
   cases r with
   |none=>
    refine⟨by unfold dP fR proper;simp;omega,fun a ha=> ?_,fun c hc=>by have:=h4 c hc;unfold dP fR;simp;omega,fun y=>by rw[one,one];unfold dP fR bw;simp;omega⟩;have:=hAB a ha b (by simp);unfold dP;simp;omega
   |some d=>
    have pd:=hr.1 d (by simp);have e3:=h3 d rfl;unfold proper at pd;refine⟨by unfold dP fR proper;simp;omega,fun a ha=> ?_,fun c hc=> ?_,fun y=>by rw[one,one];unfold dP fR bw;simp;omega⟩
    ·have:=hAB a ha b (by simp);unfold dP;simp;omega
    ·have:=hrC d (by simp) c hc;unfold dP fR;simp;omega
 obtain⟨m1,m2,m3,m4⟩:=main;obtain⟨k1,k2⟩:=F9 hA hC m1 m2 m3;refine⟨k1,fun y=> ?_⟩;rw[k2,m4,iE,iE,iE];constructor
 ·rintro(h|(h|h|h)|h)
  ·exact .inl (.inl h)
  ·exact .inl (.inr (.inl h))
  ·exact .inr h
  ·exact .inl (.inr (.inr (.inl h)))
  ·exact .inl (.inr (.inr (.inr h)))
 ·rintro((h|h|h|h)|h)
  ·exact .inl h
  ·exact .inr (.inl (.inl h))
  ·exact .inr (.inl (.inr (.inr h)))
  ·exact .inr (.inr h)
  ·exact .inr (.inl (.inr (.inl h)))
def dc (at' to:Int):List Ext:=if at'<to then [(at',to-at')]else []
def jD:List Ext→Int→List Ext
 | [],_=>[]
 |a::s,at'=>dc at' a.1++jD s (a.1+a.2)
def kc (s:List Ext) (at':Int):Int:=s.foldl (fun _ a=>a.1+a.2) at'
def zC (s:List Ext) (size:Int):List Ext:=jD s 0++dc (kc s 0) size
theorem tk {at' to:Int} (h0:0≤at') (h1:to≤1048576):VS (dc at' to)∧∀y,bB y (dc at' to)↔at'≤y∧y<to:=by
 unfold dc;split
 ·refine⟨VS.nil.cons (by unfold proper;simp only;omega) (by simp),fun y=> ?_⟩;rw[fj];unfold bw;simp only;exact⟨fun h=>h.elim (fun h=>by omega) fun h=>absurd h (kK _),fun h=>.inl (by omega)⟩
 ·exact⟨VS.nil,fun y=>⟨fun h=>absurd h (kK _),fun h=>by omega⟩⟩
theorem vN (size:Int) (hz:size≤1048576):∀(s:List Ext) (at':Int),VS s→0≤at'→(∀a∈s,at'≤a.1∧a.1+a.2≤size)→
  VS (jD s at'++dc (kc s at') size)∧(∀e∈jD s at'++dc (kc s at') size,at'≤e.1)∧∀y,bB y (jD s at'++dc (kc s at') size)↔at'≤y∧y<size∧¬bB y s
 | [],at',_,h0,_=>by
  obtain⟨g1,g2⟩:=tk h0 hz;refine⟨by simpa[jD,kc]using g1,fun e he=> ?_,fun y=> ?_⟩
  ·simp only[jD,kc,List.nil_append,List.foldl_nil]at he;unfold dc at he;split at he
   ·obtain rfl:=List.mem_singleton.1 he;exact Int.le_refl _
   ·cases he
  ·have:=g2 y;simp only[jD,kc,List.nil_append,List.foldl_nil];rw[this];exact⟨fun h=>⟨h.1,h.2,kK _⟩,fun h=>⟨h.1,h.2.1⟩⟩
 |a::s,at',hs,h0,hb=>by
  obtain⟨pa,ga⟩:=hs.head;have hba:=hb a (by simp);unfold proper at pa;obtain⟨k1,k2,k3⟩:=vN size hz s (a.1+a.2) hs.tail (by omega) fun c hc=>⟨by have:=ga c hc;omega,(hb c (by simp[hc])).2⟩
  obtain⟨g1,g2⟩:=tk (at':=at') (to:=a.1) h0 (by omega);have e1:kc (a::s) at'=kc s (a.1+a.2):=rfl;simp only[jD,e1,List.append_assoc];have gm:∀e∈dc at' a.1,at'≤e.1∧e.1+e.2=a.1:=fun e he=>by
   unfold dc at he;split at he<;>simp at he;subst he;simp only;omega
  refine⟨g1.append k1 fun p hp q hq=> ?_,fun e he=> ?_,fun y=> ?_⟩
  ·have:=(gm p hp).2;have:=k2 q hq;omega
  ·rcases List.mem_append.1 he with h|h
   ·exact(gm e h).1
   ·have:=k2 e h;omega
  ·rw[iE,g2,k3,fj];have low:bB y s→a.1+a.2<y:=by
    rintro⟨c,hc,hy⟩;have:=ga c hc;unfold bw at hy;omega
   constructor
   ·rintro(h|⟨h1,h2,h3⟩)
    ·refine⟨h.1,by omega,fun k=>k.elim (fun k=>by unfold bw at k;omega) fun k=> ?_⟩;have:=low k;omega
    ·exact⟨by omega,h2,fun k=>k.elim (fun k=>by unfold bw at k;omega) h3⟩
   ·rintro⟨h1,h2,h3⟩;by_cases hy:y<a.1
    ·exact .inl ⟨h1,hy⟩
    ·refine .inr ⟨?_,h2,fun k=>h3 (.inr k)⟩;apply Int.not_lt.1;intro hlt;exact h3 (.inl (by unfold bw;omega))
theorem E7 {s:List Ext} {size:Int} (hs:VS s) (hz:size≤1048576) (hb:∀a∈s,a.1+a.2≤size):dm size s (zC s size):=by
 have h:=vN size hz s 0 hs (Int.le_refl _) fun a ha=>⟨by have:=hs.1 a ha;unfold proper at this;omega,hb a ha⟩
 exact⟨h.1,h.2.2⟩
def better (size:Int) (best:Option Ext) (x:Ext):Bool:=decide (size≤x.2)&&(match best with|none=>true|some b=>decide (x.2<b.2))
def kS (size:Int) (best:Option Ext) (x:Ext):Option Ext:=if better size best x=true then some x else best
def cT (size:Int) (s:List Ext):Option Ext:=s.foldl (kS size) none
theorem Cl (size:Int) (s:List Ext) (x:Ext):cT size (s++[x])=kS size (cT size s) x:=by simp[cT]
theorem AP (size:Int) (o:Option Ext) (x:Ext):(kS size o x=some x∧size≤x.2)∨(kS size o x=o∧(o=none→x.2<size)):=by
 unfold kS;by_cases h:better size o x=true
 ·rw[if_pos h];refine .inl ⟨rfl,?_⟩;unfold better at h;rw[Bool.and_eq_true,decide_eq_true_eq]at h;exact h.1
 ·rw[if_neg h];refine .inr ⟨rfl,fun ho=> ?_⟩;subst ho;apply Int.not_le.1;intro hs;exact h (by unfold better;simp[hs])
theorem wO (size:Int):∀(s:List Ext) (o:Option Ext),(s.foldl (kS size) o=o∨∃b∈s,s.foldl (kS size) o=some b∧size≤b.2)∧(s.foldl (kS size) o=none→o=none∧∀x∈s,x.2<size)
 | [],o=>⟨.inl rfl,fun h=>⟨h,by simp⟩⟩
 |x::s,o=>by
  obtain⟨h1,h2⟩:=wO size s (kS size o x);rw[List.foldl_cons];have hc:=AP size o x;refine⟨?_,fun hn=> ?_⟩
  ·rcases h1 with h|⟨b,hb,h,hs⟩
   ·rw[h];rcases hc with⟨e,hs⟩|⟨e,_⟩
    ·exact .inr ⟨x,by simp,e,hs⟩
    ·exact .inl e
   ·exact .inr ⟨b,by simp[hb],h,hs⟩
  ·obtain⟨k1,k2⟩:=h2 hn;rcases hc with⟨e,_⟩|⟨e,hx⟩
   ·rw[e]at k1;cases k1
   ·rw[e]at k1;exact⟨k1,fun y hy=>by rcases List.mem_cons.1 hy with rfl|hy;exact hx k1;exact k2 y hy⟩
theorem pT {size:Int} {s:List Ext} {b:Ext} (h:cT size s=some b):b∈s∧size≤b.2:=by
 rcases(wO size s none).1 with h'|⟨c,hc,h',hs⟩
 ·unfold cT at h;rw[h']at h;cases h
 ·unfold cT at h;rw[h']at h;obtain rfl:=Option.some.inj h;exact⟨hc,hs⟩
end Go.Proofs.YtdehaommhbjakaaGreat
namespace Go.Proofs.YtdehaommhbjakaaGreat
open RowKit Stg
theorem Ck {a b:Ext} (h:meets a b):meets b a:=⟨h.2,h.1⟩
theorem xj {size:Int} (hz:size≤1048576):∀ {u:List Ext},cJ size u→∃s,VS s∧(∀x,bB x s↔bB x u)∧(∀a∈s,a.1+a.2≤size)∧s.length≤u.length
 | [],_=>⟨[],VS.nil,fun _=>Iff.rfl,by simp,by simp⟩
 |e::u,h=>by
  obtain⟨hd,ht⟩:=List.pairwise_cons.1 h.mL;obtain⟨s,h1,h2,h3,h4⟩:=xj hz ⟨fun a ha=>h.ok a (List.mem_cons_of_mem _ ha),ht⟩;obtain⟨he,he2⟩:=h.ok e (by simp);have hno:∀a∈s,¬meets a e:=fun a ha hm=>by
   obtain⟨x,hx1,hx2⟩:=(mY (h1.1 a ha).2.1 he.2.1).1 hm;obtain⟨b,hb,hxb⟩:=(h2 x).1 ⟨a,ha,hx1⟩;exact hd b hb ((mY he.2.1 (h.ok b (List.mem_cons_of_mem _ hb)).1.2.1).2 ⟨x,hx2,hxb⟩)
  obtain⟨A,l,r,C,har⟩:=wk he h1 hno;obtain⟨k1,k2⟩:=uX har h1 he;refine⟨_,k1,fun x=> ?_,fun a ha=> ?_,?_⟩
  ·rw[k2,h2,fj,or_comm]
  ·obtain⟨p1,p2,p3⟩:=k1.1 a ha;have hx:bB (a.1+a.2-1) (A++dP l e r::C):=⟨a,ha,by unfold bw;omega⟩;rcases(k2 _).1 hx with⟨b,hb,q1,q2⟩|⟨q1,q2⟩
   ·have:=h3 b hb;omega
   ·omega
  ·have:=congrArg List.length har.eq;simp only[List.length_append,List.length_cons]at this⊢;omega
theorem yT (a b:Int):(dc a b).length≤1:=by unfold dc;split<;>simp
theorem xW:∀(s:List Ext) (a:Int),(jD s a).length≤s.length
 | [],_=>by simp[jD]
 |x::s,a=>by
  have h1:=yT a x.1;have h2:=xW s (x.1+x.2);simp only[jD,List.length_append,List.length_cons];omega
theorem uI {size:Int} (hz:size≤1048576) {u:List Ext} (h:cJ size u):∃s,dm size u s∧s.length≤u.length+1:=by
 obtain⟨s,h1,h2,h3,h4⟩:=xj hz h;refine⟨_,(E7 h1 hz h3).same h2,?_⟩;have k1:=xW s 0;have k2:=yT (kc s 0) size;unfold zC;rw[List.length_append];omega
theorem cJ.perm {size:Int} {u v:List Ext} (h:cJ size u) (p:u.Perm v):cJ size v:=
 ⟨fun e he=>h.ok e (p.mem_iff.2 he),(p.pairwise_iff fun hn hm=>hn (Ck hm)).1 h.mL⟩
theorem wY {u v:List Ext} (p:u.Perm v) (x:Int):bB x u↔bB x v:=
 ⟨fun⟨e,he,hx⟩=>⟨e,p.mem_iff.1 he,hx⟩,fun⟨e,he,hx⟩=>⟨e,p.mem_iff.2 he,hx⟩⟩
theorem dm.perm {size:Int} {u v s:List Ext} (h:dm size u s) (p:u.Perm v):dm size v s:=h.same fun x=>wY p x
theorem cJ.len {size:Int} {u:List Ext} (h:cJ size u) {e:Ext} (he:e∈u):0<e.2:=(h.ok e he).1.2.1
open Classical in
noncomputable def bK (size:Int) (u:List Ext):List Ext:=if h:∃s,dm size u s then h.choose else []
theorem yv {size:Int} {u s:List Ext} (h:dm size u s):dm size u (bK size u):=by
 unfold bK;rw[dif_pos ⟨s,h⟩];exact Exists.choose_spec (⟨s,h⟩:∃s,dm size u s)
theorem oG {size:Int} {u s:List Ext} (h:dm size u s):bK size u=s:=(yv h).unique h
theorem cJ.free {size:Int} (hz:size≤1048576) {u:List Ext} (h:cJ size u):dm size u (bK size u):=let ⟨_,hs,_⟩:=uI hz h;yv hs
theorem cJ.xH {size:Int} (hz:size≤1048576) {u:List Ext} (h:cJ size u):(bK size u).length≤u.length+1:=by
 obtain⟨s,h1,h2⟩:=uI hz h;rw[oG h1];exact h2
end Go.Proofs.YtdehaommhbjakaaGreat
namespace Go.Proofs.YtdehaommhbjakaaGreat
open RowKit Stg
def ca (l:List Int) (off:Nat) (b:List Int):List Int:=l.take off++b++l.drop (off+b.length)
theorem cN {l b:List Int} {off:Nat} (h:off+b.length≤l.length):(ca l off b).length=l.length:=by
 unfold ca;simp;omega
theorem ll {l b:List Int} {off:Nat} (h:off+b.length≤l.length) (x:Nat):(ca l off b).getD x 0=if off≤x∧x<off+b.length then b.getD (x-off) 0 else l.getD x 0:=by
 unfold ca;simp only[List.getD_eq_getElem?_getD];by_cases h1:x<off
 ·rw[if_neg (by omega),List.append_assoc,List.getElem?_append_left (by simp;omega),List.getElem?_take,if_pos h1]
 ·by_cases h2:x<off+b.length
  ·rw[if_pos ⟨by omega,h2⟩,List.getElem?_append_left (by simp;omega),List.getElem?_append_right (by simp;omega)];simp[show min off l.length=off by omega]
  ·rw[if_neg (by omega),List.getElem?_append_right (by simp;omega),List.getElem?_drop];congr 2;simp;omega
theorem iD {l b:List Int} {off:Nat} {P:Int→Prop} (hl:∀x∈l,P x) (hb:∀x∈b,P x):∀x∈ca l off b,P x:=by
 intro x hx;unfold ca at hx;rcases List.mem_append.1 hx with hx|hx
 ·rcases List.mem_append.1 hx with hx|hx
  ·exact hl x (List.mem_of_mem_take hx)
  ·exact hb x hx
 ·exact hl x (List.mem_of_mem_drop hx)
theorem x8 {l m:List Int} (hl:l.length=m.length) (h:∀i,i<l.length→l.getD i 0=m.getD i 0):l=m:=by
 apply List.ext_getElem hl;intro i h1 h2;have:=h i h1;simpa[List.getD_eq_getElem?_getD,List.getElem?_eq_getElem h1,List.getElem?_eq_getElem h2]using this
theorem yO (l:List Int) (p n i:Nat) (hi:i<n):((l.drop p).take n).getD i 0=l.getD (p+i) 0:=by
 simp only[List.getD_eq_getElem?_getD,List.getElem?_take,if_pos hi,List.getElem?_drop]
abbrev Ob:=Ext×List Int
structure cd (size:Int) (O:List Ob) (B:List Int):Prop where
 len:(B.length:Int)=size
 byte:∀b∈B,0≤b∧b≤255
 obj:∀o∈O,∀i:Nat,(i:Int)<o.1.2→B.getD (o.1.1.toNat+i) 0=o.2.getD i 0
 rest:∀x:Nat,¬bB x (O.map (·.1))→B.getD x 0=0
section
variable {size:Int} {A C O:List Ob} {B:List Int} {o:Ob}
theorem cd.at (hu:cJ size (O.map (·.1))) (ho:o∈O):0≤o.1.1∧0<o.1.2∧o.1.1+o.1.2≤size:=by
 obtain⟨⟨h1,h2,_⟩,h3⟩:=hu.ok o.1 (List.mem_map_of_mem ho);exact⟨h1,h2,h3⟩
theorem cd.read (h:cd size O B) (hu:cJ size (O.map (·.1))) (ho:o∈O) {p n:Nat} (hp:p+n≤o.2.length) (hl:(o.2.length:Int)≤o.1.2):(B.drop (o.1.1.toNat+p)).take n=(o.2.drop p).take n:=by
 have hb:=cd.at hu ho;have hlen:=h.len;refine x8 (by simp;omega) fun i hi=> ?_
 simp only[List.length_take,List.length_drop]at hi;rw[yO _ _ _ _ (by omega),yO _ _ _ _ (by omega),Nat.add_assoc,h.obj o ho (p+i) (by omega)]
theorem cd.perm {O':List Ob} (h:cd size O B) (p:O.Perm O'):cd size O' B:=
 ⟨h.len,h.byte,fun o ho=>h.obj o (p.mem_iff.2 ho),fun x hx=>h.rest x fun hi=>hx ((wY (p.map _) _).1 hi)⟩
theorem l5 (A C:List Ob) (o:Ob):(A++o::C).Perm (o::(A++C)):=List.perm_middle
theorem others (hu:cJ size ((o::O).map (·.1))) {q:Ob} (hq:q∈O) {i:Nat} (hi:(i:Int)<q.1.2):¬(o.1.1≤((q.1.1.toNat+i:Nat):Int)∧((q.1.1.toNat+i:Nat):Int)<o.1.1+o.1.2):=by
 intro hm;have h1:=cd.at hu (o:=o) (by simp);have h2:=cd.at hu (o:=q) (by simp[hq]);have hd:=(List.pairwise_cons.1 (show(o.1::O.map (·.1)).Pairwise (fun a b=>¬meets a b)from hu.mL)).1 q.1 (List.mem_map_of_mem hq);exact hd ((mY h1.2.1 h2.2.1).2 ⟨((q.1.1.toNat+i:Nat):Int),by unfold bw;omega,by unfold bw;omega⟩)
theorem cd.Gr (h:cd size (o::O) B) (hu:cJ size ((o::O).map (·.1))) {p:Nat} {b:List Int} (hp:p+b.length≤o.2.length) (hl:(o.2.length:Int)≤o.1.2) (hb:∀x∈b,0≤x∧x≤255):
  cd size ((o.1,ca o.2 p b)::O) (ca B (o.1.1.toNat+p) b):=by
 have h1:=cd.at hu (o:=o) (by simp);have hlen:=h.len;have hfit:o.1.1.toNat+p+b.length≤B.length:=by omega
 refine⟨by rw[cN hfit];exact hlen,iD h.byte hb,fun q hq i hi=> ?_,fun x hx=> ?_⟩
 ·rw[ll hfit];rcases List.mem_cons.1 hq with rfl|hq
  ·simp only at hi⊢;rw[ll hp];by_cases c:p≤i∧i<p+b.length
   ·rw[if_pos (by omega),if_pos c];congr 1;omega
   ·rw[if_neg (by omega),if_neg c,h.obj o (by simp) i hi]
  ·have:=others hu hq hi;rw[if_neg (by omega),h.obj q (by simp[hq]) i hi]
 ·have hx':¬bB x ((o::O).map (·.1)):=by simpa using hx
  rw[ll hfit,if_neg,h.rest x hx'];intro hc;exact hx' ⟨o.1,by simp,by unfold bw;omega⟩
theorem cd.write (h:cd size (A++o::C) B) (hu:cJ size ((A++o::C).map (·.1))) {p:Nat} {b:List Int} (hp:p+b.length≤o.2.length) (hl:(o.2.length:Int)≤o.1.2) (hb:∀x∈b,0≤x∧x≤255):
  cd size (A++(o.1,ca o.2 p b)::C) (ca B (o.1.1.toNat+p) b):=
 ((h.perm (l5 A C o)).Gr (hu.perm ((l5 A C o).map _)) hp hl hb).perm (l5 A C _).symm
theorem cd.alloc {x:Ext} {n:Nat} (h:cd size (A++C) B) (hu:cJ size ((A++(x,List.replicate n 0)::C).map (·.1))):cd size (A++(x,List.replicate n 0)::C) B:=by
 refine cd.perm (O:=(x,List.replicate n 0)::(A++C)) ⟨h.len,h.byte,fun q hq i hi=> ?_,fun y hy=>h.rest y fun hi=>hy ?_⟩ (l5 A C _).symm
 ·rcases List.mem_cons.1 hq with rfl|hq
  ·have hu':=hu.perm ((l5 A C _).map _);have h1:=cd.at hu' (o:=(x,List.replicate n 0)) (by simp);simp only at hi h1⊢;have e0:(List.replicate n (0:Int)).getD i 0=0:=by
    simp only[List.getD_eq_getElem?_getD,List.getElem?_replicate];split<;>rfl
   rw[e0];refine h.rest _ fun hin=> ?_
   obtain⟨e,he,hxe⟩:=hin;obtain⟨q,hq,rfl⟩:=List.mem_map.1 he;have h2:=cd.at hu' (o:=q) (List.mem_cons_of_mem _ hq);have hd:=(List.pairwise_cons.1 (show(x::(A++C).map (·.1)).Pairwise (fun a b=>¬meets a b)from hu'.mL)).1 q.1 (List.mem_map_of_mem hq);exact hd ((mY h1.2.1 h2.2.1).2 ⟨_,by unfold bw;omega,hxe⟩)
  ·exact h.obj q hq i hi
 ·obtain⟨e,he,hxe⟩:=hi;exact⟨e,by rw[List.map_cons];exact List.mem_cons_of_mem _ he,hxe⟩
theorem cd.free (h:cd size (A++o::C) B) (hu:cJ size ((A++o::C).map (·.1))):cd size (A++C) (ca B o.1.1.toNat (List.replicate o.1.2.toNat 0)):=by
 replace h:=h.perm (l5 A C o);replace hu:=hu.perm ((l5 A C o).map _);have h1:=cd.at hu (o:=o) (by simp);have hlen:=h.len;have hfit:o.1.1.toNat+(List.replicate o.1.2.toNat (0:Int)).length≤B.length:=by rw[List.length_replicate];omega
 refine⟨by rw[cN hfit];exact hlen,iD h.byte fun x hx=>by rw[List.eq_of_mem_replicate hx];omega,fun q hq i hi=> ?_,fun x hx=> ?_⟩
 ·have:=others hu hq hi;rw[ll hfit,List.length_replicate,if_neg (by omega),h.obj q (List.mem_cons_of_mem _ hq) i hi]
 ·rw[ll hfit,List.length_replicate];by_cases c:o.1.1.toNat≤x∧x<o.1.1.toNat+o.1.2.toNat
  ·rw[if_pos c];simp only[List.getD_eq_getElem?_getD,List.getElem?_replicate];split<;>rfl
  ·rw[if_neg c];refine h.rest x fun hi=> ?_
   rw[List.map_cons,fj]at hi;rcases hi with hi|hi
   ·unfold bw at hi;omega
   ·exact hx hi
end
def ch:List Int→Int
 | []=>0
 |b::l=>b+256*ch l
theorem fV (b:Int):∀l:List Int,ch (l++[b])=ch l+b*256^l.length
 | []=>by simp[ch]
 |a::l=>by
  rw[List.cons_append,ch,ch,fV b l,List.length_cons,Int.pow_succ,Int.mul_add,Int.mul_comm 256 (b*_),Int.mul_assoc,Int.add_assoc]
theorem fU:∀(l:List Int),(∀b∈l,0≤b∧b≤255)→0≤ch l∧ch l<256^l.length
 | [],_=>by simp[ch]
 |a::l,h=>by
  have h1:=h a (by simp);have h2:=fU l fun b hb=>h b (List.mem_cons_of_mem _ hb)
  rw[ch,List.length_cons,Int.pow_succ];omega
def aX (v:Int):Nat→List Int
 |0=>[]
 |k+1=>v%256::aX (v/256) k
theorem aZ (v:Int) (k:Nat):(aX v k).length=k:=by
 induction k generalizing v with
 |zero=>rfl
 |succ k ih=>simp[aX,ih]
theorem kD (v:Int) (k:Nat):∀b∈aX v k,0≤b∧b≤255:=by
 induction k generalizing v with
 |zero=>simp[aX]
 |succ k ih=>
  intro b hb;rcases List.mem_cons.1 hb with rfl|hb
  ·omega
  ·exact ih _ b hb
theorem gJ (v:Int) (k:Nat):aX v (k+1)=aX v k++[v/256^k%256]:=by
 induction k generalizing v with
 |zero=>simp[aX]
 |succ k ih=>
  rw[aX,ih,aX,List.cons_append,Int.ediv_ediv_of_nonneg (by omega), ←Int.pow_succ']
end Go.Proofs.YtdehaommhbjakaaGreat
