/- Joined contracts. No conditions. -/
import Derived.Test.YteidpgdfocjdbaaGreatCS
import Derived.Test.YteidpgdfocjdbaaGreatC01
namespace Go.Proofs.YteidpgdfocjdbaaGreat
open Go Go.RowKit Go.Stg
abbrev Ext:=Int×Int
def proper (e:Ext):Prop:=0≤e.1∧0<e.2∧e.1+e.2≤1048576
def inE (x:Int) (e:Ext):Prop:=e.1≤x∧x<e.1+e.2
def inS (x:Int) (s:List Ext):Prop:=∃e∈s,inE x e
def VS (s:List Ext):Prop:=(∀e∈s,proper e)∧s.Pairwise fun a b=>a.1+a.2<b.1
theorem VS.nil:VS []:=⟨by simp,List.Pairwise.nil⟩
theorem VS.tail {a:Ext} {s:List Ext} (h:VS (a::s)):VS s:=⟨fun e he=>h.1 e (by simp[he]),(List.pairwise_cons.1 h.2).2⟩
theorem VS.head {a:Ext} {s:List Ext} (h:VS (a::s)):proper a∧∀b∈s,a.1+a.2<b.1:=⟨h.1 a (by simp),(List.pairwise_cons.1 h.2).1⟩
theorem VS.cons {a:Ext} {s:List Ext} (h:VS s) (ha:proper a) (hb:∀b∈s,a.1+a.2<b.1):VS (a::s):=
 ⟨fun e he=>by rcases List.mem_cons.1 he with rfl|h1;exact ha;exact h.1 e h1,List.pairwise_cons.2 ⟨hb,h.2⟩⟩
theorem VS.sub {s t:List Ext} (h:VS s) (hs:t.Sublist s):VS t:=⟨fun e he=>h.1 e (hs.subset he),h.2.sublist hs⟩
theorem VS.append {s t:List Ext} (hs:VS s) (ht:VS t) (h:∀a∈s,∀b∈t,a.1+a.2<b.1):VS (s++t):=
 ⟨fun e he=>by rcases List.mem_append.1 he with h1|h1;exact hs.1 e h1;exact ht.1 e h1,List.pairwise_append.2 ⟨hs.2,ht.2,h⟩⟩
theorem VS.apart {s t:List Ext} (h:VS (s++t)):VS s∧VS t∧∀a∈s,∀b∈t,a.1+a.2<b.1:=
 ⟨h.sub (List.sublist_append_left s t),h.sub (List.sublist_append_right s t),(List.pairwise_append.1 h.2).2.2⟩
theorem inS_nil (x:Int):¬inS x []:=by rintro⟨e,he,_⟩;cases he
theorem inS_cons {x:Int} {a:Ext} {s:List Ext}:inS x (a::s)↔inE x a∨inS x s:=by
 constructor
 ·rintro⟨e,he,h⟩;rcases List.mem_cons.1 he with rfl|h1
  ·exact .inl h
  ·exact .inr ⟨e,h1,h⟩
 ·rintro(h|⟨e,he,h⟩)
  ·exact⟨a,by simp,h⟩
  ·exact⟨e,by simp[he],h⟩
theorem inS_append {x:Int} {s t:List Ext}:inS x (s++t)↔inS x s∨inS x t:=by
 constructor
 ·rintro⟨e,he,h⟩;rcases List.mem_append.1 he with h1|h1
  ·exact .inl ⟨e,h1,h⟩
  ·exact .inr ⟨e,h1,h⟩
 ·rintro(⟨e,he,h⟩|⟨e,he,h⟩)
  ·exact⟨e,by simp[he],h⟩
  ·exact⟨e,by simp[he],h⟩
theorem VS.unique:∀ {s t:List Ext},VS s→VS t→(∀x,inS x s↔inS x t)→s=t
 | [],[],_,_,_=>rfl
 | [],b::t,_,ht,h=>by
  have hb:=ht.head.1;exact absurd ((h b.1).2 (inS_cons.2 (.inl (by unfold inE;unfold proper at hb;omega)))) (inS_nil _)
 |a::s,[],hs,_,h=>by
  have ha:=hs.head.1;exact absurd ((h a.1).1 (inS_cons.2 (.inl (by unfold inE;unfold proper at ha;omega)))) (inS_nil _)
 |a::s,b::t,hs,ht,h=>by
  obtain⟨pa,ga⟩:=hs.head;obtain⟨pb,gb⟩:=ht.head;unfold proper at pa pb;have low:∀ {c:Ext} {u:List Ext},VS (c::u)→∀x,inS x (c::u)→c.1≤x:=by
   intro c u hu x hx;have hc:=hu.head;unfold proper at hc;rcases inS_cons.1 hx with h1|⟨e,he,h1⟩
   ·exact h1.1
   ·have:=hc.2 e he;unfold inE at h1;omega
  have gap:∀ {c:Ext} {u:List Ext},VS (c::u)→¬inS (c.1+c.2) (c::u):=by
   intro c u hu hx;have hc:=hu.head;rcases inS_cons.1 hx with h1|⟨e,he,h1⟩
   ·unfold inE at h1;omega
   ·have:=hc.2 e he;unfold inE at h1;omega
  have e1:a.1=b.1:=by
   have h1:=low ht a.1 ((h a.1).1 (inS_cons.2 (.inl (by unfold inE;omega))));have h2:=low hs b.1 ((h b.1).2 (inS_cons.2 (.inl (by unfold inE;omega))));omega
  have e2:a.2=b.2:=by
   rcases Int.lt_trichotomy a.2 b.2 with hl|hl|hl
   ·exact absurd ((h (a.1+a.2)).2 (inS_cons.2 (.inl (by unfold inE;omega)))) (gap hs)
   ·exact hl
   ·exact absurd ((h (b.1+b.2)).1 (inS_cons.2 (.inl (by unfold inE;omega)))) (gap ht)
  have e:a=b:=Prod.ext e1 e2;subst e;have hst:s=t:=VS.unique hs.tail ht.tail fun x=>by
   have hx:=h x;rw[inS_cons,inS_cons]at hx;constructor
   ·intro h1;rcases hx.1 (.inr h1)with h2|h2
    ·obtain⟨e,he,h1⟩:=h1;have:=ga e he;unfold inE at h1 h2;omega
    ·exact h2
   ·intro h1;rcases hx.2 (.inr h1)with h2|h2
    ·obtain⟨e,he,h1⟩:=h1;have:=gb e he;unfold inE at h1 h2;omega
    ·exact h2
  rw[hst]
def meets (a b:Ext):Prop:=a.1<b.1+b.2∧b.1<a.1+a.2
theorem meets_iff {a b:Ext} (ha:0<a.2) (hb:0<b.2):meets a b↔∃x,inE x a∧inE x b:=by
 unfold meets inE;constructor
 ·intro h;rcases Int.le_total a.1 b.1 with hl|hl
  ·exact⟨b.1,by omega⟩
  ·exact⟨a.1,by omega⟩
 ·rintro⟨x,h1,h2⟩;omega
theorem remove_law {A C:List Ext} {a x:Ext} (h:VS (A++a::C)) (hx:proper x) (h1:a.1≤x.1) (h2:x.1+x.2≤a.1+a.2):
  VS (A++((if a.1<x.1 then [(a.1,x.1-a.1)]else [])++(if x.1+x.2<a.1+a.2 then [(x.1+x.2,a.1+a.2-(x.1+x.2))]else []))++C)∧
  ∀y,inS y (A++((if a.1<x.1 then [(a.1,x.1-a.1)]else [])++(if x.1+x.2<a.1+a.2 then [(x.1+x.2,a.1+a.2-(x.1+x.2))]else []))++C)↔inS y (A++a::C)∧¬inE y x:=by
 obtain⟨hA,haC,hAC⟩:=h.apart;obtain⟨pa,gC⟩:=haC.head;have hC:=haC.tail;have gA:∀b∈A,b.1+b.2<a.1:=fun b hb=>hAC b hb a (by simp)
 have gAC:∀b∈A,∀c∈C,b.1+b.2<c.1:=fun b hb c hc=>hAC b hb c (by simp[hc])
 unfold proper at pa hx;have mid:VS ((if a.1<x.1 then [(a.1,x.1-a.1)]else [])++(if x.1+x.2<a.1+a.2 then [(x.1+x.2,a.1+a.2-(x.1+x.2))]else [])):=by
  refine VS.append ?_ ?_ ?_
  ·split
   ·exact VS.nil.cons (by unfold proper;simp only;omega) (by simp)
   ·exact VS.nil
  ·split
   ·exact VS.nil.cons (by unfold proper;simp only;omega) (by simp)
   ·exact VS.nil
  ·intro p hp q hq;split at hp<;>split at hq<;>simp at hp hq;subst hp;subst hq;simp only;omega
 have low:∀p∈((if a.1<x.1 then [(a.1,x.1-a.1)]else [])++(if x.1+x.2<a.1+a.2 then [(x.1+x.2,a.1+a.2-(x.1+x.2))]else [])),a.1≤p.1∧p.1+p.2≤a.1+a.2:=by
  intro p hp;rcases List.mem_append.1 hp with h|h
  ·split at h<;>simp at h;subst h;simp only;omega
  ·split at h<;>simp at h;subst h;simp only;omega
 refine⟨(hA.append mid fun b hb p hp=>by have:=gA b hb;have:=low p hp;omega).append hC fun b hb c hc=> ?_,fun y=> ?_⟩
 ·rcases List.mem_append.1 hb with h|h
  ·exact gAC b h c hc
  ·have:=low b h;have:=gC c hc;omega
 ·have hmid:inS y ((if a.1<x.1 then [(a.1,x.1-a.1)]else [])++(if x.1+x.2<a.1+a.2 then [(x.1+x.2,a.1+a.2-(x.1+x.2))]else []))↔inE y a∧¬inE y x:=by
   have k1:∀(c:Prop) [Decidable c] (e:Ext),inS y (if c then [e]else [])↔c∧inE y e:=fun c _ e=>by
    split
    ·rename_i hc;rw[inS_cons];exact⟨fun h=>⟨hc,h.resolve_right (inS_nil _)⟩,fun h=>.inl h.2⟩
    ·rename_i hc;exact⟨fun h=>absurd h (inS_nil _),fun h=>absurd h.1 hc⟩
   rw[inS_append,k1,k1];unfold inE;simp only;omega
  rw[inS_append (t:=C),inS_append (s:=A),hmid,inS_append (s:=A) (t:=a::C),inS_cons];have d1:∀s:List Ext,(∀b∈s,b.1+b.2<a.1∨a.1+a.2<b.1)→inS y s→¬inE y x:=by
   rintro s hs ⟨b,hb,hy⟩ hyx;have:=hs b hb;unfold inE at hy hyx;omega
  have dA:=d1 A fun b hb=>.inl (gA b hb)
  have dC:=d1 C fun b hb=>.inr (gC b hb)
  constructor
  ·rintro((h|h)|h)
   ·exact⟨.inl h,dA h⟩
   ·exact⟨.inr (.inl h.1),h.2⟩
   ·exact⟨.inr (.inr h),dC h⟩
  ·rintro⟨h|h|h,hn⟩
   ·exact .inl (.inl h)
   ·exact .inl (.inr ⟨h,hn⟩)
   ·exact .inr h
theorem put_law {A C:List Ext} {e:Ext} (hA:VS A) (hC:VS C) (he:proper e) (h1:∀a∈A,a.1+a.2<e.1) (h2:∀c∈C,e.1+e.2<c.1):
  VS (A++e::C)∧∀y,inS y (A++e::C)↔inS y A∨inE y e∨inS y C:=by
 refine⟨hA.append (hC.cons he h2) fun a ha b hb=> ?_,fun y=>by rw[inS_append,inS_cons]⟩;rcases List.mem_cons.1 hb with rfl|hb
 ·exact h1 a ha
 ·have:=h1 a ha;have:=h2 b hb;unfold proper at he;omega
structure FreeOf (size:Int) (used fr:List Ext):Prop where
 vs:VS fr
 mem:∀x,inS x fr↔0≤x∧x<size∧¬inS x used
theorem FreeOf.unique {size:Int} {used s t:List Ext} (hs:FreeOf size used s) (ht:FreeOf size used t):s=t:=hs.vs.unique ht.vs fun x=>by rw[hs.mem,ht.mem]
theorem FreeOf.same {size:Int} {used used' s:List Ext} (hs:FreeOf size used s) (h:∀x,inS x used↔inS x used'):FreeOf size used' s:=⟨hs.vs,fun x=>by rw[hs.mem,h]⟩
structure UsedOk (size:Int) (used:List Ext):Prop where
 ok:∀e∈used,proper e∧e.1+e.2≤size
 dis:used.Pairwise fun a b=>¬meets a b
theorem FreeOf.part {size:Int} {used fr:List Ext} (h:FreeOf size used fr) {a:Ext} (ha:a∈fr):0≤a.1∧a.1+a.2≤size∧∀u∈used,0<u.2→¬meets a u:=by
 have pa:=h.vs.1 a ha;unfold proper at pa;have key:∀x,inE x a→0≤x∧x<size∧¬inS x used:=fun x hx=>(h.mem x).1 ⟨a,ha,hx⟩
 have k1:=key a.1 (by unfold inE;omega);have k2:=key (a.1+a.2-1) (by unfold inE;omega);refine⟨k1.1,by omega,fun u hu hu2 hm=> ?_⟩;obtain⟨x,h1,h2⟩:=(meets_iff (by omega) hu2).1 hm;exact(key x h1).2.2 ⟨u,hu,h2⟩
theorem FreeOf.alloc {size:Int} {used A C:List Ext} {a x:Ext} (h:FreeOf size used (A++a::C)) (hu:UsedOk size used) (hx:proper x) (h1:a.1≤x.1) (h2:x.1+x.2≤a.1+a.2):
  FreeOf size (used++[x]) (A++((if a.1<x.1 then [(a.1,x.1-a.1)]else [])++(if x.1+x.2<a.1+a.2 then [(x.1+x.2,a.1+a.2-(x.1+x.2))]else []))++C)∧UsedOk size (used++[x]):=by
 obtain⟨hv,hm⟩:=remove_law h.vs hx h1 h2;have hp:=h.part (a:=a) (by simp);refine⟨⟨hv,fun y=> ?_⟩,?_,?_⟩
 ·rw[hm,h.mem,inS_append,inS_cons];constructor
  ·rintro⟨⟨k1,k2,k3⟩,k4⟩;exact⟨k1,k2,fun k=>k.elim k3 fun k=>k.elim k4 (inS_nil _)⟩
  ·rintro⟨k1,k2,k3⟩;exact⟨⟨k1,k2,fun k=>k3 (.inl k)⟩,fun k=>k3 (.inr (.inl k))⟩
 ·intro e he;rcases List.mem_append.1 he with h'|h'
  ·exact hu.ok e h'
  ·obtain rfl:=List.mem_singleton.1 h';exact⟨hx,by omega⟩
 ·refine List.pairwise_append.2 ⟨hu.dis,List.pairwise_singleton _ _,fun u hu' b hb=> ?_⟩;obtain rfl:=List.mem_singleton.1 hb;have:=hp.2.2 u hu' (by have:=(hu.ok u hu').1;unfold proper at this;omega);unfold meets at*;omega
theorem dis_perm {A C:List Ext} {e:Ext} {size:Int} (hu:UsedOk size (A++e::C)):UsedOk size (A++C)∧∀u∈A++C,¬meets u e:=by
 have hd:=List.pairwise_append.1 hu.dis;have hd2:=List.pairwise_cons.1 hd.2.1;refine⟨⟨fun u h=>hu.ok u ?_,List.pairwise_append.2 ⟨hd.1,hd2.2,fun a ha b hb=>hd.2.2 a ha b (by simp[hb])⟩⟩,fun u h=> ?_⟩
 ·rcases List.mem_append.1 h with h|h<;>simp[h]
 ·rcases List.mem_append.1 h with h|h
  ·exact hd.2.2 u h e (by simp)
  ·have:=hd2.1 u h;unfold meets at*;omega
theorem FreeOf.free {size:Int} {A C fr fr':List Ext} {e:Ext} (h:FreeOf size (A++e::C) fr) (hu:UsedOk size (A++e::C)) (hv:VS fr') (hm:∀y,inS y fr'↔inS y fr∨inE y e):FreeOf size (A++C) fr':=by
 refine⟨hv,fun y=> ?_⟩;have he:=hu.ok e (by simp);unfold proper at he;rw[hm,h.mem,inS_append,inS_append,inS_cons];have hno:=(dis_perm hu).2;have hno':inE y e→¬(inS y A∨inS y C):=fun h1 h2=>by
  have:inS y (A++C):=inS_append.2 h2;obtain⟨u,hu',hy⟩:=this;have hpu:=(hu.ok u (by rcases List.mem_append.1 hu' with h|h<;>simp[h])).1;unfold proper at hpu;exact hno u hu' ((meets_iff (by omega) (by omega)).2 ⟨y,hy,h1⟩)
 constructor
 ·rintro(⟨k1,k2,k3⟩|k)
  ·exact⟨k1,k2,fun k=>k3 (k.elim .inl fun k=>.inr (.inr k))⟩
  ·exact⟨by unfold inE at k;omega,by unfold inE at k;omega,hno' k⟩
 ·rintro⟨k1,k2,k3⟩;by_cases hy:inE y e
  ·exact .inr hy
  ·exact .inl ⟨k1,k2,fun k=>k.elim (fun k=>k3 (.inl k)) fun k=>k.elim hy fun k=>k3 (.inr k)⟩
structure Around (s:List Ext) (e:Ext) (A:List Ext) (l r:Option Ext) (C:List Ext):Prop where
 eq:s=A++(l.toList++(r.toList++C))
 ahead:∀a∈A,a.1+a.2<e.1
 left:∀b,l=some b→b.1+b.2=e.1
 right:∀b,r=some b→b.1=e.1+e.2
 behind:∀c∈C,e.1+e.2<c.1
theorem around_of {e:Ext} (he:proper e):∀ {s:List Ext},VS s→(∀a∈s,¬meets a e)→∃A l r C,Around s e A l r C
 | [],_,_=>⟨[],none,none,[],rfl,by simp,by simp,by simp,by simp⟩
 |a::s,hs,hno=>by
  have h1:=hno a (by simp);obtain⟨pa,ga⟩:=hs.head;unfold proper at pa he;unfold meets at h1;rcases Int.lt_trichotomy (a.1+a.2) e.1 with hl|hl|hl
  ·obtain⟨A,l,r,C,h⟩:=around_of he hs.tail fun b hb=>hno b (by simp[hb])
   refine⟨a::A,l,r,C,by rw[h.eq];rfl,fun b hb=> ?_,h.left,h.right,h.behind⟩;rcases List.mem_cons.1 hb with rfl|hb
   ·exact hl
   ·exact h.ahead b hb
  ·match s,hs,hno,ga with
   | [],_,_,_=>exact⟨[],some a,none,[],rfl,by simp,fun b hb=>by obtain rfl:=Option.some.inj hb;exact hl,by simp,by simp⟩
   |c::t,hs,hno,ga=>
    have h2:=hno c (by simp);have gc:=ga c (by simp);have gt:=hs.tail.head;unfold proper at gt;unfold meets at h2;by_cases hc:c.1=e.1+e.2
    ·exact⟨[],some a,some c,t,rfl,by simp,fun b hb=>by obtain rfl:=Option.some.inj hb;exact hl,fun b hb=>by obtain rfl:=Option.some.inj hb;exact hc,fun d hd=>by have:=gt.2 d hd;omega⟩
    ·refine⟨[],some a,none,c::t,rfl,by simp,fun b hb=>by obtain rfl:=Option.some.inj hb;exact hl,by simp,fun d hd=> ?_⟩;rcases List.mem_cons.1 hd with rfl|hd
     ·omega
     ·have:=gt.2 d hd;omega
  ·by_cases hc:a.1=e.1+e.2
   ·exact⟨[],none,some a,s,rfl,by simp,by simp,fun b hb=>by obtain rfl:=Option.some.inj hb;exact hc,fun d hd=>by have:=ga d hd;omega⟩
   ·refine⟨[],none,none,a::s,rfl,by simp,by simp,by simp,fun d hd=> ?_⟩;rcases List.mem_cons.1 hd with rfl|hd
    ·omega
    ·have:=ga d hd;omega
def lenO (l:Option Ext):Int:=l.elim 0 (·.2)
def joined (l:Option Ext) (e:Ext) (r:Option Ext):Ext:=(l.elim e.1 (·.1),lenO l+e.2+lenO r)
theorem insert_law {s:List Ext} {e:Ext} {A C:List Ext} {l r:Option Ext} (h:Around s e A l r C) (hs:VS s) (he:proper e):
  VS (A++joined l e r::C)∧∀y,inS y (A++joined l e r::C)↔inS y s∨inE y e:=by
 obtain⟨rfl,h1,h2,h3,h4⟩:=h;obtain⟨hA,hB,hAB⟩:=hs.apart;obtain⟨hl,hB,hlB⟩:=hB.apart;obtain⟨hr,hC,hrC⟩:=hB.apart;unfold proper at he;have one:∀y (o:Option Ext),inS y o.toList↔∃b,o=some b∧inE y b:=fun y o=>by cases o<;>simp[inS]
 have main:proper (joined l e r)∧(∀a∈A,a.1+a.2<(joined l e r).1)∧(∀c∈C,(joined l e r).1+(joined l e r).2<c.1)∧∀y,inE y (joined l e r)↔inS y l.toList∨inE y e∨inS y r.toList:=by
  cases l with
  |none=>cases r with
   |none=>exact⟨by unfold joined lenO proper;simp;omega,fun a ha=>h1 a ha,fun c hc=>by have:=h4 c hc;unfold joined lenO;simp;omega,fun y=>by simp only[one];unfold joined lenO inE;simp⟩
   |some d=>
    have pd:=hr.1 d (by simp);have e3:=h3 d rfl;unfold proper at pd;refine⟨by unfold joined lenO proper;simp;omega,fun a ha=>h1 a ha,fun c hc=> ?_,fun y=>by rw[one,one];unfold joined lenO inE;simp;omega⟩;have:=hrC d (by simp) c hc;unfold joined lenO;simp;omega
  |some b=>
   have pb:=hl.1 b (by simp);have e2:=h2 b rfl;unfold proper at pb
   cases r with
   |none=>
    refine⟨by unfold joined lenO proper;simp;omega,fun a ha=> ?_,fun c hc=>by have:=h4 c hc;unfold joined lenO;simp;omega,fun y=>by rw[one,one];unfold joined lenO inE;simp;omega⟩;have:=hAB a ha b (by simp);unfold joined;simp;omega
   |some d=>
    have pd:=hr.1 d (by simp);have e3:=h3 d rfl;unfold proper at pd;refine⟨by unfold joined lenO proper;simp;omega,fun a ha=> ?_,fun c hc=> ?_,fun y=>by rw[one,one];unfold joined lenO inE;simp;omega⟩
    ·have:=hAB a ha b (by simp);unfold joined;simp;omega
    ·have:=hrC d (by simp) c hc;unfold joined lenO;simp;omega
 obtain⟨m1,m2,m3,m4⟩:=main;obtain⟨k1,k2⟩:=put_law hA hC m1 m2 m3;refine⟨k1,fun y=> ?_⟩;rw[k2,m4,inS_append,inS_append,inS_append];constructor
 ·rintro(h|(h|h|h)|h)
  ·exact .inl (.inl h)
  ·exact .inl (.inr (.inl h))
  ·exact .inr h
  ·exact .inl (.inr (.inr (.inl h)))
  ·exact .inl (.inr (.inr (.inr h)))
 ·rintro((h|h|h|h)|h)
  ·exact .inl h
  ·exact .inr (.inl (.inl h))
  ·exact .inr (.inl (.inr (.inr h)))
  ·exact .inr (.inr h)
  ·exact .inr (.inl (.inr (.inl h)))
def gap (at' to:Int):List Ext:=if at'<to then [(at',to-at')]else []
def gaps:List Ext→Int→List Ext
 | [],_=>[]
 |a::s,at'=>gap at' a.1++gaps s (a.1+a.2)
def endsAt (s:List Ext) (at':Int):Int:=s.foldl (fun _ a=>a.1+a.2) at'
def cmpl (s:List Ext) (size:Int):List Ext:=gaps s 0++gap (endsAt s 0) size
theorem gap_law {at' to:Int} (h0:0≤at') (h1:to≤1048576):VS (gap at' to)∧∀y,inS y (gap at' to)↔at'≤y∧y<to:=by
 unfold gap;split
 ·refine⟨VS.nil.cons (by unfold proper;simp only;omega) (by simp),fun y=> ?_⟩;rw[inS_cons];unfold inE;simp only;exact⟨fun h=>h.elim (fun h=>by omega) fun h=>absurd h (inS_nil _),fun h=>.inl (by omega)⟩
 ·exact⟨VS.nil,fun y=>⟨fun h=>absurd h (inS_nil _),fun h=>by omega⟩⟩
theorem cmpl_from (size:Int) (hz:size≤1048576):∀(s:List Ext) (at':Int),VS s→0≤at'→(∀a∈s,at'≤a.1∧a.1+a.2≤size)→
  VS (gaps s at'++gap (endsAt s at') size)∧(∀e∈gaps s at'++gap (endsAt s at') size,at'≤e.1)∧∀y,inS y (gaps s at'++gap (endsAt s at') size)↔at'≤y∧y<size∧¬inS y s
 | [],at',_,h0,_=>by
  obtain⟨g1,g2⟩:=gap_law h0 hz;refine⟨by simpa[gaps,endsAt]using g1,fun e he=> ?_,fun y=> ?_⟩
  ·simp only[gaps,endsAt,List.nil_append,List.foldl_nil]at he;unfold gap at he;split at he
   ·obtain rfl:=List.mem_singleton.1 he;exact Int.le_refl _
   ·cases he
  ·have:=g2 y;simp only[gaps,endsAt,List.nil_append,List.foldl_nil];rw[this];exact⟨fun h=>⟨h.1,h.2,inS_nil _⟩,fun h=>⟨h.1,h.2.1⟩⟩
 |a::s,at',hs,h0,hb=>by
  obtain⟨pa,ga⟩:=hs.head;have hba:=hb a (by simp);unfold proper at pa;obtain⟨k1,k2,k3⟩:=cmpl_from size hz s (a.1+a.2) hs.tail (by omega) fun c hc=>⟨by have:=ga c hc;omega,(hb c (by simp[hc])).2⟩
  obtain⟨g1,g2⟩:=gap_law (at':=at') (to:=a.1) h0 (by omega);have e1:endsAt (a::s) at'=endsAt s (a.1+a.2):=rfl;simp only[gaps,e1,List.append_assoc];have gm:∀e∈gap at' a.1,at'≤e.1∧e.1+e.2=a.1:=fun e he=>by
   unfold gap at he;split at he<;>simp at he;subst he;simp only;omega
  refine⟨g1.append k1 fun p hp q hq=> ?_,fun e he=> ?_,fun y=> ?_⟩
  ·have:=(gm p hp).2;have:=k2 q hq;omega
  ·rcases List.mem_append.1 he with h|h
   ·exact(gm e h).1
   ·have:=k2 e h;omega
  ·rw[inS_append,g2,k3,inS_cons];have low:inS y s→a.1+a.2<y:=by
    rintro⟨c,hc,hy⟩;have:=ga c hc;unfold inE at hy;omega
   constructor
   ·rintro(h|⟨h1,h2,h3⟩)
    ·refine⟨h.1,by omega,fun k=>k.elim (fun k=>by unfold inE at k;omega) fun k=> ?_⟩;have:=low k;omega
    ·exact⟨by omega,h2,fun k=>k.elim (fun k=>by unfold inE at k;omega) h3⟩
   ·rintro⟨h1,h2,h3⟩;by_cases hy:y<a.1
    ·exact .inl ⟨h1,hy⟩
    ·refine .inr ⟨?_,h2,fun k=>h3 (.inr k)⟩;apply Int.not_lt.1;intro hlt;exact h3 (.inl (by unfold inE;omega))
theorem cmpl_law {s:List Ext} {size:Int} (hs:VS s) (hz:size≤1048576) (hb:∀a∈s,a.1+a.2≤size):FreeOf size s (cmpl s size):=by
 have h:=cmpl_from size hz s 0 hs (Int.le_refl _) fun a ha=>⟨by have:=hs.1 a ha;unfold proper at this;omega,hb a ha⟩
 exact⟨h.1,h.2.2⟩
def better (size:Int) (best:Option Ext) (x:Ext):Bool:=decide (size≤x.2)&&(match best with|none=>true|some b=>decide (x.2<b.2))
def bstep (size:Int) (best:Option Ext) (x:Ext):Option Ext:=if better size best x=true then some x else best
def bestP (size:Int) (s:List Ext):Option Ext:=s.foldl (bstep size) none
theorem bestP_snoc (size:Int) (s:List Ext) (x:Ext):bestP size (s++[x])=bstep size (bestP size s) x:=by simp[bestP]
theorem bstep_cases (size:Int) (o:Option Ext) (x:Ext):(bstep size o x=some x∧size≤x.2)∨(bstep size o x=o∧(o=none→x.2<size)):=by
 unfold bstep;by_cases h:better size o x=true
 ·rw[if_pos h];refine .inl ⟨rfl,?_⟩;unfold better at h;rw[Bool.and_eq_true,decide_eq_true_eq]at h;exact h.1
 ·rw[if_neg h];refine .inr ⟨rfl,fun ho=> ?_⟩;subst ho;apply Int.not_le.1;intro hs;exact h (by unfold better;simp[hs])
theorem best_from (size:Int):∀(s:List Ext) (o:Option Ext),(s.foldl (bstep size) o=o∨∃b∈s,s.foldl (bstep size) o=some b∧size≤b.2)∧(s.foldl (bstep size) o=none→o=none∧∀x∈s,x.2<size)
 | [],o=>⟨.inl rfl,fun h=>⟨h,by simp⟩⟩
 |x::s,o=>by
  obtain⟨h1,h2⟩:=best_from size s (bstep size o x);rw[List.foldl_cons];have hc:=bstep_cases size o x;refine⟨?_,fun hn=> ?_⟩
  ·rcases h1 with h|⟨b,hb,h,hs⟩
   ·rw[h];rcases hc with⟨e,hs⟩|⟨e,_⟩
    ·exact .inr ⟨x,by simp,e,hs⟩
    ·exact .inl e
   ·exact .inr ⟨b,by simp[hb],h,hs⟩
  ·obtain⟨k1,k2⟩:=h2 hn;rcases hc with⟨e,_⟩|⟨e,hx⟩
   ·rw[e]at k1;cases k1
   ·rw[e]at k1;exact⟨k1,fun y hy=>by rcases List.mem_cons.1 hy with rfl|hy;exact hx k1;exact k2 y hy⟩
theorem best_some {size:Int} {s:List Ext} {b:Ext} (h:bestP size s=some b):b∈s∧size≤b.2:=by
 rcases(best_from size s none).1 with h'|⟨c,hc,h',hs⟩
 ·unfold bestP at h;rw[h']at h;cases h
 ·unfold bestP at h;rw[h']at h;obtain rfl:=Option.some.inj h;exact⟨hc,hs⟩
theorem meets_symm {a b:Ext} (h:meets a b):meets b a:=⟨h.2,h.1⟩
theorem used_set {size:Int} (hz:size≤1048576):∀ {u:List Ext},UsedOk size u→∃s,VS s∧(∀x,inS x s↔inS x u)∧(∀a∈s,a.1+a.2≤size)∧s.length≤u.length
 | [],_=>⟨[],VS.nil,fun _=>Iff.rfl,by simp,by simp⟩
 |e::u,h=>by
  obtain⟨hd,ht⟩:=List.pairwise_cons.1 h.dis;obtain⟨s,h1,h2,h3,h4⟩:=used_set hz ⟨fun a ha=>h.ok a (List.mem_cons_of_mem _ ha),ht⟩;obtain⟨he,he2⟩:=h.ok e (by simp);have hno:∀a∈s,¬meets a e:=fun a ha hm=>by
   obtain⟨x,hx1,hx2⟩:=(meets_iff (h1.1 a ha).2.1 he.2.1).1 hm;obtain⟨b,hb,hxb⟩:=(h2 x).1 ⟨a,ha,hx1⟩;exact hd b hb ((meets_iff he.2.1 (h.ok b (List.mem_cons_of_mem _ hb)).1.2.1).2 ⟨x,hx2,hxb⟩)
  obtain⟨A,l,r,C,har⟩:=around_of he h1 hno;obtain⟨k1,k2⟩:=insert_law har h1 he;refine⟨_,k1,fun x=> ?_,fun a ha=> ?_,?_⟩
  ·rw[k2,h2,inS_cons,or_comm]
  ·obtain⟨p1,p2,p3⟩:=k1.1 a ha;have hx:inS (a.1+a.2-1) (A++joined l e r::C):=⟨a,ha,by unfold inE;omega⟩;rcases(k2 _).1 hx with⟨b,hb,q1,q2⟩|⟨q1,q2⟩
   ·have:=h3 b hb;omega
   ·omega
  ·have:=congrArg List.length har.eq;simp only[List.length_append,List.length_cons]at this⊢;omega
theorem gap_len (a b:Int):(gap a b).length≤1:=by unfold gap;split<;>simp
theorem gaps_len:∀(s:List Ext) (a:Int),(gaps s a).length≤s.length
 | [],_=>by simp[gaps]
 |x::s,a=>by
  have h1:=gap_len a x.1;have h2:=gaps_len s (x.1+x.2);simp only[gaps,List.length_append,List.length_cons];omega
theorem free_exists {size:Int} (hz:size≤1048576) {u:List Ext} (h:UsedOk size u):∃s,FreeOf size u s∧s.length≤u.length+1:=by
 obtain⟨s,h1,h2,h3,h4⟩:=used_set hz h;refine⟨_,(cmpl_law h1 hz h3).same h2,?_⟩;have k1:=gaps_len s 0;have k2:=gap_len (endsAt s 0) size;unfold cmpl;rw[List.length_append];omega
theorem UsedOk.perm {size:Int} {u v:List Ext} (h:UsedOk size u) (p:u.Perm v):UsedOk size v:=
 ⟨fun e he=>h.ok e (p.mem_iff.2 he),(p.pairwise_iff fun hn hm=>hn (meets_symm hm)).1 h.dis⟩
theorem inS_perm {u v:List Ext} (p:u.Perm v) (x:Int):inS x u↔inS x v:=
 ⟨fun⟨e,he,hx⟩=>⟨e,p.mem_iff.1 he,hx⟩,fun⟨e,he,hx⟩=>⟨e,p.mem_iff.2 he,hx⟩⟩
theorem FreeOf.perm {size:Int} {u v s:List Ext} (h:FreeOf size u s) (p:u.Perm v):FreeOf size v s:=h.same fun x=>inS_perm p x
theorem UsedOk.len {size:Int} {u:List Ext} (h:UsedOk size u) {e:Ext} (he:e∈u):0<e.2:=(h.ok e he).1.2.1
open Classical in
noncomputable def frOf (size:Int) (u:List Ext):List Ext:=if h:∃s,FreeOf size u s then h.choose else []
theorem frOf_ok {size:Int} {u s:List Ext} (h:FreeOf size u s):FreeOf size u (frOf size u):=by
 unfold frOf;rw[dif_pos ⟨s,h⟩];exact Exists.choose_spec (⟨s,h⟩:∃s,FreeOf size u s)
theorem frOf_eq {size:Int} {u s:List Ext} (h:FreeOf size u s):frOf size u=s:=(frOf_ok h).unique h
theorem UsedOk.free {size:Int} (hz:size≤1048576) {u:List Ext} (h:UsedOk size u):FreeOf size u (frOf size u):=let ⟨_,hs,_⟩:=free_exists hz h;frOf_ok hs
theorem UsedOk.free_len {size:Int} (hz:size≤1048576) {u:List Ext} (h:UsedOk size u):(frOf size u).length≤u.length+1:=by
 obtain⟨s,h1,h2⟩:=free_exists hz h;rw[frOf_eq h1];exact h2
end Go.Proofs.YteidpgdfocjdbaaGreat
