/- Joined contracts. No conditions. -/
import Derived.Test.YtgfdeiijblakfaaGreatCS
import Derived.Test.YtgfdeiijblakfaaGreatC18
namespace Go.Proofs.YtgfdeiijblakfaaGreat
open Go Go.RowKit Go.Stg
structure Around (s:List Ext) (e:Ext) (A:List Ext) (l r:Option Ext) (C:List Ext):Prop where
 eq:s=A++(l.toList++(r.toList++C))
 ahead:∀a∈A,a.1+a.2<e.1
 left:∀b,l=some b→b.1+b.2=e.1
 right:∀b,r=some b→b.1=e.1+e.2
 behind:∀c∈C,e.1+e.2<c.1
theorem around_of {e:Ext} (he:proper e):∀ {s:List Ext},VS s→(∀a∈s,¬meets a e)→∃A l r C,Around s e A l r C
 | [],_,_=>⟨[],none,none,[],rfl,by simp,by simp,by simp,by simp⟩
 |a::s,hs,hno=>by
  have h1:=hno a (by simp);obtain⟨pa,ga⟩:=hs.head;unfold proper at pa he;unfold meets at h1;rcases Int.lt_trichotomy (a.1+a.2) e.1 with hl|hl|hl
  ·obtain⟨A,l,r,C,h⟩:=around_of he hs.tail fun b hb=>hno b (by simp[hb])
   refine⟨a::A,l,r,C,by rw[h.eq];rfl,fun b hb=> ?_,h.left,h.right,h.behind⟩;rcases List.mem_cons.1 hb with rfl|hb
   ·exact hl
   ·exact h.ahead b hb
  ·match s,hs,hno,ga with
   | [],_,_,_=>exact⟨[],some a,none,[],rfl,by simp,fun b hb=>by obtain rfl:=Option.some.inj hb;exact hl,by simp,by simp⟩
   |c::t,hs,hno,ga=>
    have h2:=hno c (by simp);have gc:=ga c (by simp);have gt:=hs.tail.head;unfold proper at gt;unfold meets at h2;by_cases hc:c.1=e.1+e.2
    ·exact⟨[],some a,some c,t,rfl,by simp,fun b hb=>by obtain rfl:=Option.some.inj hb;exact hl,fun b hb=>by obtain rfl:=Option.some.inj hb;exact hc,fun d hd=>by have:=gt.2 d hd;omega⟩
    ·refine⟨[],some a,none,c::t,rfl,by simp,fun b hb=>by obtain rfl:=Option.some.inj hb;exact hl,by simp,fun d hd=> ?_⟩;rcases List.mem_cons.1 hd with rfl|hd
     ·omega
     ·have:=gt.2 d hd;omega
  ·by_cases hc:a.1=e.1+e.2
   ·exact⟨[],none,some a,s,rfl,by simp,by simp,fun b hb=>by obtain rfl:=Option.some.inj hb;exact hc,fun d hd=>by have:=ga d hd;omega⟩
   ·refine⟨[],none,none,a::s,rfl,by simp,by simp,by simp,fun d hd=> ?_⟩;rcases List.mem_cons.1 hd with rfl|hd
    ·omega
    ·have:=ga d hd;omega
def lenO (l:Option Ext):Int:=l.elim 0 (·.2)
def joined (l:Option Ext) (e:Ext) (r:Option Ext):Ext:=(l.elim e.1 (·.1),lenO l+e.2+lenO r)
theorem insert_law {s:List Ext} {e:Ext} {A C:List Ext} {l r:Option Ext} (h:Around s e A l r C) (hs:VS s) (he:proper e):
  VS (A++joined l e r::C)∧∀y,inS y (A++joined l e r::C)↔inS y s∨inE y e:=by
 obtain⟨rfl,h1,h2,h3,h4⟩:=h;obtain⟨hA,hB,hAB⟩:=hs.apart;obtain⟨hl,hB,hlB⟩:=hB.apart;obtain⟨hr,hC,hrC⟩:=hB.apart;unfold proper at he;have one:∀y (o:Option Ext),inS y o.toList↔∃b,o=some b∧inE y b:=fun y o=>by cases o<;>simp[inS]
 have main:proper (joined l e r)∧(∀a∈A,a.1+a.2<(joined l e r).1)∧(∀c∈C,(joined l e r).1+(joined l e r).2<c.1)∧∀y,inE y (joined l e r)↔inS y l.toList∨inE y e∨inS y r.toList:=by
  cases l with
  |none=>cases r with
   |none=>exact⟨by unfold joined lenO proper;simp;omega,fun a ha=>h1 a ha,fun c hc=>by have:=h4 c hc;unfold joined lenO;simp;omega,fun y=>by simp only[one];unfold joined lenO inE;simp⟩
   |some d=>
    have pd:=hr.1 d (by simp);have e3:=h3 d rfl;unfold proper at pd;refine⟨by unfold joined lenO proper;simp;omega,fun a ha=>h1 a ha,fun c hc=> ?_,fun y=>by rw[one,one];unfold joined lenO inE;simp;omega⟩;have:=hrC d (by simp) c hc;unfold joined lenO;simp;omega
  |some b=>
   have pb:=hl.1 b (by simp);have e2:=h2 b rfl;unfold proper at pb
   cases r with
   |none=>
    refine⟨by unfold joined lenO proper;simp;omega,fun a ha=> ?_,fun c hc=>by have:=h4 c hc;unfold joined lenO;simp;omega,fun y=>by rw[one,one];unfold joined lenO inE;simp;omega⟩;have:=hAB a ha b (by simp);unfold joined;simp;omega
   |some d=>
    have pd:=hr.1 d (by simp);have e3:=h3 d rfl;unfold proper at pd;refine⟨by unfold joined lenO proper;simp;omega,fun a ha=> ?_,fun c hc=> ?_,fun y=>by rw[one,one];unfold joined lenO inE;simp;omega⟩
    ·have:=hAB a ha b (by simp);unfold joined;simp;omega
    ·have:=hrC d (by simp) c hc;unfold joined lenO;simp;omega
 obtain⟨m1,m2,m3,m4⟩:=main;obtain⟨k1,k2⟩:=put_law hA hC m1 m2 m3;refine⟨k1,fun y=> ?_⟩;rw[k2,m4,inS_append,inS_append,inS_append];constructor
 ·rintro(h|(h|h|h)|h)
  ·exact .inl (.inl h)
  ·exact .inl (.inr (.inl h))
  ·exact .inr h
  ·exact .inl (.inr (.inr (.inl h)))
  ·exact .inl (.inr (.inr (.inr h)))
 ·rintro((h|h|h|h)|h)
  ·exact .inl h
  ·exact .inr (.inl (.inl h))
  ·exact .inr (.inl (.inr (.inr h)))
  ·exact .inr (.inr h)
  ·exact .inr (.inl (.inr (.inl h)))
def gap (at' to:Int):List Ext:=if at'<to then [(at',to-at')]else []
def gaps:List Ext→Int→List Ext
 | [],_=>[]
 |a::s,at'=>gap at' a.1++gaps s (a.1+a.2)
def endsAt (s:List Ext) (at':Int):Int:=s.foldl (fun _ a=>a.1+a.2) at'
def cmpl (s:List Ext) (size:Int):List Ext:=gaps s 0++gap (endsAt s 0) size
theorem gap_law {at' to:Int} (h0:0≤at') (h1:to≤1048576):VS (gap at' to)∧∀y,inS y (gap at' to)↔at'≤y∧y<to:=by
 unfold gap;split
 ·refine⟨VS.nil.cons (by unfold proper;simp only;omega) (by simp),fun y=> ?_⟩;rw[inS_cons];unfold inE;simp only;exact⟨fun h=>h.elim (fun h=>by omega) fun h=>absurd h (inS_nil _),fun h=>.inl (by omega)⟩
 ·exact⟨VS.nil,fun y=>⟨fun h=>absurd h (inS_nil _),fun h=>by omega⟩⟩
theorem cmpl_from (size:Int) (hz:size≤1048576):∀(s:List Ext) (at':Int),VS s→0≤at'→(∀a∈s,at'≤a.1∧a.1+a.2≤size)→
  VS (gaps s at'++gap (endsAt s at') size)∧(∀e∈gaps s at'++gap (endsAt s at') size,at'≤e.1)∧∀y,inS y (gaps s at'++gap (endsAt s at') size)↔at'≤y∧y<size∧¬inS y s
 | [],at',_,h0,_=>by
  obtain⟨g1,g2⟩:=gap_law h0 hz;refine⟨by simpa[gaps,endsAt]using g1,fun e he=> ?_,fun y=> ?_⟩
  ·simp only[gaps,endsAt,List.nil_append,List.foldl_nil]at he;unfold gap at he;split at he
   ·obtain rfl:=List.mem_singleton.1 he;exact Int.le_refl _
   ·cases he
  ·have:=g2 y;simp only[gaps,endsAt,List.nil_append,List.foldl_nil];rw[this];exact⟨fun h=>⟨h.1,h.2,inS_nil _⟩,fun h=>⟨h.1,h.2.1⟩⟩
 |a::s,at',hs,h0,hb=>by
  obtain⟨pa,ga⟩:=hs.head;have hba:=hb a (by simp);unfold proper at pa;obtain⟨k1,k2,k3⟩:=cmpl_from size hz s (a.1+a.2) hs.tail (by omega) fun c hc=>⟨by have:=ga c hc;omega,(hb c (by simp[hc])).2⟩
  obtain⟨g1,g2⟩:=gap_law (at':=at') (to:=a.1) h0 (by omega);have e1:endsAt (a::s) at'=endsAt s (a.1+a.2):=rfl;simp only[gaps,e1,List.append_assoc];have gm:∀e∈gap at' a.1,at'≤e.1∧e.1+e.2=a.1:=fun e he=>by
   unfold gap at he;split at he<;>simp at he;subst he;simp only;omega
  refine⟨g1.append k1 fun p hp q hq=> ?_,fun e he=> ?_,fun y=> ?_⟩
  ·have:=(gm p hp).2;have:=k2 q hq;omega
  ·rcases List.mem_append.1 he with h|h
   ·exact(gm e h).1
   ·have:=k2 e h;omega
  ·rw[inS_append,g2,k3,inS_cons];have low:inS y s→a.1+a.2<y:=by
    rintro⟨c,hc,hy⟩;have:=ga c hc;unfold inE at hy;omega
   constructor
   ·rintro(h|⟨h1,h2,h3⟩)
    ·refine⟨h.1,by omega,fun k=>k.elim (fun k=>by unfold inE at k;omega) fun k=> ?_⟩;have:=low k;omega
    ·exact⟨by omega,h2,fun k=>k.elim (fun k=>by unfold inE at k;omega) h3⟩
   ·rintro⟨h1,h2,h3⟩;by_cases hy:y<a.1
    ·exact .inl ⟨h1,hy⟩
    ·refine .inr ⟨?_,h2,fun k=>h3 (.inr k)⟩;apply Int.not_lt.1;intro hlt;exact h3 (.inl (by unfold inE;omega))
theorem cmpl_law {s:List Ext} {size:Int} (hs:VS s) (hz:size≤1048576) (hb:∀a∈s,a.1+a.2≤size):FreeOf size s (cmpl s size):=by
 have h:=cmpl_from size hz s 0 hs (Int.le_refl _) fun a ha=>⟨by have:=hs.1 a ha;unfold proper at this;omega,hb a ha⟩
 exact⟨h.1,h.2.2⟩
def better (size:Int) (best:Option Ext) (x:Ext):Bool:=decide (size≤x.2)&&(match best with|none=>true|some b=>decide (x.2<b.2))
def bstep (size:Int) (best:Option Ext) (x:Ext):Option Ext:=if better size best x=true then some x else best
def bestP (size:Int) (s:List Ext):Option Ext:=s.foldl (bstep size) none
theorem bestP_snoc (size:Int) (s:List Ext) (x:Ext):bestP size (s++[x])=bstep size (bestP size s) x:=by simp[bestP]
theorem bstep_cases (size:Int) (o:Option Ext) (x:Ext):(bstep size o x=some x∧size≤x.2)∨(bstep size o x=o∧(o=none→x.2<size)):=by
 unfold bstep;by_cases h:better size o x=true
 ·rw[if_pos h];refine .inl ⟨rfl,?_⟩;unfold better at h;rw[Bool.and_eq_true,decide_eq_true_eq]at h;exact h.1
 ·rw[if_neg h];refine .inr ⟨rfl,fun ho=> ?_⟩;subst ho;apply Int.not_le.1;intro hs;exact h (by unfold better;simp[hs])
theorem best_from (size:Int):∀(s:List Ext) (o:Option Ext),(s.foldl (bstep size) o=o∨∃b∈s,s.foldl (bstep size) o=some b∧size≤b.2)∧(s.foldl (bstep size) o=none→o=none∧∀x∈s,x.2<size)
 | [],o=>⟨.inl rfl,fun h=>⟨h,by simp⟩⟩
 |x::s,o=>by
  obtain⟨h1,h2⟩:=best_from size s (bstep size o x);rw[List.foldl_cons];have hc:=bstep_cases size o x;refine⟨?_,fun hn=> ?_⟩
  ·rcases h1 with h|⟨b,hb,h,hs⟩
   ·rw[h];rcases hc with⟨e,hs⟩|⟨e,_⟩
    ·exact .inr ⟨x,by simp,e,hs⟩
    ·exact .inl e
   ·exact .inr ⟨b,by simp[hb],h,hs⟩
  ·obtain⟨k1,k2⟩:=h2 hn;rcases hc with⟨e,_⟩|⟨e,hx⟩
   ·rw[e]at k1;cases k1
   ·rw[e]at k1;exact⟨k1,fun y hy=>by rcases List.mem_cons.1 hy with rfl|hy;exact hx k1;exact k2 y hy⟩
theorem best_some {size:Int} {s:List Ext} {b:Ext} (h:bestP size s=some b):b∈s∧size≤b.2:=by
 rcases(best_from size s none).1 with h'|⟨c,hc,h',hs⟩
 ·unfold bestP at h;rw[h']at h;cases h
 ·unfold bestP at h;rw[h']at h;obtain rfl:=Option.some.inj h;exact⟨hc,hs⟩
end Go.Proofs.YtgfdeiijblakfaaGreat
namespace Go.Proofs.YtgfdeiijblakfaaGreat
open Go Go.RowKit Go.Stg
theorem meets_symm {a b:Ext} (h:meets a b):meets b a:=⟨h.2,h.1⟩
theorem used_set {size:Int} (hz:size≤1048576):∀ {u:List Ext},UsedOk size u→∃s,VS s∧(∀x,inS x s↔inS x u)∧(∀a∈s,a.1+a.2≤size)∧s.length≤u.length
 | [],_=>⟨[],VS.nil,fun _=>Iff.rfl,by simp,by simp⟩
 |e::u,h=>by
  obtain⟨hd,ht⟩:=List.pairwise_cons.1 h.dis;obtain⟨s,h1,h2,h3,h4⟩:=used_set hz ⟨fun a ha=>h.ok a (List.mem_cons_of_mem _ ha),ht⟩;obtain⟨he,he2⟩:=h.ok e (by simp);have hno:∀a∈s,¬meets a e:=fun a ha hm=>by
   obtain⟨x,hx1,hx2⟩:=(meets_iff (h1.1 a ha).2.1 he.2.1).1 hm;obtain⟨b,hb,hxb⟩:=(h2 x).1 ⟨a,ha,hx1⟩;exact hd b hb ((meets_iff he.2.1 (h.ok b (List.mem_cons_of_mem _ hb)).1.2.1).2 ⟨x,hx2,hxb⟩)
  obtain⟨A,l,r,C,har⟩:=around_of he h1 hno;obtain⟨k1,k2⟩:=insert_law har h1 he;refine⟨_,k1,fun x=> ?_,fun a ha=> ?_,?_⟩
  ·rw[k2,h2,inS_cons,or_comm]
  ·obtain⟨p1,p2,p3⟩:=k1.1 a ha;have hx:inS (a.1+a.2-1) (A++joined l e r::C):=⟨a,ha,by unfold inE;omega⟩;rcases(k2 _).1 hx with⟨b,hb,q1,q2⟩|⟨q1,q2⟩
   ·have:=h3 b hb;omega
   ·omega
  ·have:=congrArg List.length har.eq;simp only[List.length_append,List.length_cons]at this⊢;omega
theorem gap_len (a b:Int):(gap a b).length≤1:=by unfold gap;split<;>simp
theorem gaps_len:∀(s:List Ext) (a:Int),(gaps s a).length≤s.length
 | [],_=>by simp[gaps]
 |x::s,a=>by
  have h1:=gap_len a x.1;have h2:=gaps_len s (x.1+x.2);simp only[gaps,List.length_append,List.length_cons];omega
theorem free_exists {size:Int} (hz:size≤1048576) {u:List Ext} (h:UsedOk size u):∃s,FreeOf size u s∧s.length≤u.length+1:=by
 obtain⟨s,h1,h2,h3,h4⟩:=used_set hz h;refine⟨_,(cmpl_law h1 hz h3).same h2,?_⟩;have k1:=gaps_len s 0;have k2:=gap_len (endsAt s 0) size;unfold cmpl;rw[List.length_append];omega
theorem UsedOk.perm {size:Int} {u v:List Ext} (h:UsedOk size u) (p:u.Perm v):UsedOk size v:=
 ⟨fun e he=>h.ok e (p.mem_iff.2 he),(p.pairwise_iff fun hn hm=>hn (meets_symm hm)).1 h.dis⟩
theorem inS_perm {u v:List Ext} (p:u.Perm v) (x:Int):inS x u↔inS x v:=
 ⟨fun⟨e,he,hx⟩=>⟨e,p.mem_iff.1 he,hx⟩,fun⟨e,he,hx⟩=>⟨e,p.mem_iff.2 he,hx⟩⟩
theorem FreeOf.perm {size:Int} {u v s:List Ext} (h:FreeOf size u s) (p:u.Perm v):FreeOf size v s:=h.same fun x=>inS_perm p x
theorem UsedOk.len {size:Int} {u:List Ext} (h:UsedOk size u) {e:Ext} (he:e∈u):0<e.2:=(h.ok e he).1.2.1
open Classical in
noncomputable def frOf (size:Int) (u:List Ext):List Ext:=if h:∃s,FreeOf size u s then h.choose else []
theorem frOf_ok {size:Int} {u s:List Ext} (h:FreeOf size u s):FreeOf size u (frOf size u):=by
 unfold frOf;rw[dif_pos ⟨s,h⟩];exact Exists.choose_spec (⟨s,h⟩:∃s,FreeOf size u s)
theorem frOf_eq {size:Int} {u s:List Ext} (h:FreeOf size u s):frOf size u=s:=(frOf_ok h).unique h
theorem UsedOk.free {size:Int} (hz:size≤1048576) {u:List Ext} (h:UsedOk size u):FreeOf size u (frOf size u):=let ⟨_,hs,_⟩:=free_exists hz h;frOf_ok hs
theorem UsedOk.free_len {size:Int} (hz:size≤1048576) {u:List Ext} (h:UsedOk size u):(frOf size u).length≤u.length+1:=by
 obtain⟨s,h1,h2⟩:=free_exists hz h;rw[frOf_eq h1];exact h2
end Go.Proofs.YtgfdeiijblakfaaGreat
namespace Go.Proofs.YtgfdeiijblakfaaGreat
open Go Go.RowKit Go.Stg
def overlay (l:List Int) (off:Nat) (b:List Int):List Int:=l.take off++b++l.drop (off+b.length)
theorem overlay_len {l b:List Int} {off:Nat} (h:off+b.length≤l.length):(overlay l off b).length=l.length:=by
 unfold overlay;simp;omega
theorem overlay_get {l b:List Int} {off:Nat} (h:off+b.length≤l.length) (x:Nat):(overlay l off b).getD x 0=if off≤x∧x<off+b.length then b.getD (x-off) 0 else l.getD x 0:=by
 unfold overlay;simp only[List.getD_eq_getElem?_getD];by_cases h1:x<off
 ·rw[if_neg (by omega),List.append_assoc,List.getElem?_append_left (by simp;omega),List.getElem?_take,if_pos h1]
 ·by_cases h2:x<off+b.length
  ·rw[if_pos ⟨by omega,h2⟩,List.getElem?_append_left (by simp;omega),List.getElem?_append_right (by simp;omega)];simp[show min off l.length=off by omega]
  ·rw[if_neg (by omega),List.getElem?_append_right (by simp;omega),List.getElem?_drop];congr 2;simp;omega
theorem overlay_mem {l b:List Int} {off:Nat} {P:Int→Prop} (hl:∀x∈l,P x) (hb:∀x∈b,P x):∀x∈overlay l off b,P x:=by
 intro x hx;unfold overlay at hx;rcases List.mem_append.1 hx with hx|hx
 ·rcases List.mem_append.1 hx with hx|hx
  ·exact hl x (List.mem_of_mem_take hx)
  ·exact hb x hx
 ·exact hl x (List.mem_of_mem_drop hx)
theorem ext_getD {l m:List Int} (hl:l.length=m.length) (h:∀i,i<l.length→l.getD i 0=m.getD i 0):l=m:=by
 apply List.ext_getElem hl;intro i h1 h2;have:=h i h1;simpa[List.getD_eq_getElem?_getD,List.getElem?_eq_getElem h1,List.getElem?_eq_getElem h2]using this
theorem cut_get (l:List Int) (p n i:Nat) (hi:i<n):((l.drop p).take n).getD i 0=l.getD (p+i) 0:=by
 simp only[List.getD_eq_getElem?_getD,List.getElem?_take,if_pos hi,List.getElem?_drop]
abbrev Ob:=Ext×List Int
structure ArIs (size:Int) (O:List Ob) (B:List Int):Prop where
 len:(B.length:Int)=size
 byte:∀b∈B,0≤b∧b≤255
 obj:∀o∈O,∀i:Nat,(i:Int)<o.1.2→B.getD (o.1.1.toNat+i) 0=o.2.getD i 0
 rest:∀x:Nat,¬inS x (O.map (·.1))→B.getD x 0=0
section
variable {size:Int} {A C O:List Ob} {B:List Int} {o:Ob}
theorem ArIs.at (hu:UsedOk size (O.map (·.1))) (ho:o∈O):0≤o.1.1∧0<o.1.2∧o.1.1+o.1.2≤size:=by
 obtain⟨⟨h1,h2,_⟩,h3⟩:=hu.ok o.1 (List.mem_map_of_mem ho);exact⟨h1,h2,h3⟩
theorem ArIs.read (h:ArIs size O B) (hu:UsedOk size (O.map (·.1))) (ho:o∈O) {p n:Nat} (hp:p+n≤o.2.length) (hl:(o.2.length:Int)≤o.1.2):(B.drop (o.1.1.toNat+p)).take n=(o.2.drop p).take n:=by
 have hb:=ArIs.at hu ho;have hlen:=h.len;refine ext_getD (by simp;omega) fun i hi=> ?_
 simp only[List.length_take,List.length_drop]at hi;rw[cut_get _ _ _ _ (by omega),cut_get _ _ _ _ (by omega),Nat.add_assoc,h.obj o ho (p+i) (by omega)]
theorem ArIs.perm {O':List Ob} (h:ArIs size O B) (p:O.Perm O'):ArIs size O' B:=
 ⟨h.len,h.byte,fun o ho=>h.obj o (p.mem_iff.2 ho),fun x hx=>h.rest x fun hi=>hx ((inS_perm (p.map _) _).1 hi)⟩
theorem perm_front (A C:List Ob) (o:Ob):(A++o::C).Perm (o::(A++C)):=List.perm_middle
theorem others (hu:UsedOk size ((o::O).map (·.1))) {q:Ob} (hq:q∈O) {i:Nat} (hi:(i:Int)<q.1.2):¬(o.1.1≤((q.1.1.toNat+i:Nat):Int)∧((q.1.1.toNat+i:Nat):Int)<o.1.1+o.1.2):=by
 intro hm;have h1:=ArIs.at hu (o:=o) (by simp);have h2:=ArIs.at hu (o:=q) (by simp[hq]);have hd:=(List.pairwise_cons.1 (show(o.1::O.map (·.1)).Pairwise (fun a b=>¬meets a b)from hu.dis)).1 q.1 (List.mem_map_of_mem hq);exact hd ((meets_iff h1.2.1 h2.2.1).2 ⟨((q.1.1.toNat+i:Nat):Int),by unfold inE;omega,by unfold inE;omega⟩)
theorem ArIs.write0 (h:ArIs size (o::O) B) (hu:UsedOk size ((o::O).map (·.1))) {p:Nat} {b:List Int} (hp:p+b.length≤o.2.length) (hl:(o.2.length:Int)≤o.1.2) (hb:∀x∈b,0≤x∧x≤255):
  ArIs size ((o.1,overlay o.2 p b)::O) (overlay B (o.1.1.toNat+p) b):=by
 have h1:=ArIs.at hu (o:=o) (by simp);have hlen:=h.len;have hfit:o.1.1.toNat+p+b.length≤B.length:=by omega
 refine⟨by rw[overlay_len hfit];exact hlen,overlay_mem h.byte hb,fun q hq i hi=> ?_,fun x hx=> ?_⟩
 ·rw[overlay_get hfit];rcases List.mem_cons.1 hq with rfl|hq
  ·simp only at hi⊢;rw[overlay_get hp];by_cases c:p≤i∧i<p+b.length
   ·rw[if_pos (by omega),if_pos c];congr 1;omega
   ·rw[if_neg (by omega),if_neg c,h.obj o (by simp) i hi]
  ·have:=others hu hq hi;rw[if_neg (by omega),h.obj q (by simp[hq]) i hi]
 ·have hx':¬inS x ((o::O).map (·.1)):=by simpa using hx
  rw[overlay_get hfit,if_neg,h.rest x hx'];intro hc;exact hx' ⟨o.1,by simp,by unfold inE;omega⟩
theorem ArIs.write (h:ArIs size (A++o::C) B) (hu:UsedOk size ((A++o::C).map (·.1))) {p:Nat} {b:List Int} (hp:p+b.length≤o.2.length) (hl:(o.2.length:Int)≤o.1.2) (hb:∀x∈b,0≤x∧x≤255):
  ArIs size (A++(o.1,overlay o.2 p b)::C) (overlay B (o.1.1.toNat+p) b):=
 ((h.perm (perm_front A C o)).write0 (hu.perm ((perm_front A C o).map _)) hp hl hb).perm (perm_front A C _).symm
theorem ArIs.alloc {x:Ext} {n:Nat} (h:ArIs size (A++C) B) (hu:UsedOk size ((A++(x,List.replicate n 0)::C).map (·.1))):ArIs size (A++(x,List.replicate n 0)::C) B:=by
 refine ArIs.perm (O:=(x,List.replicate n 0)::(A++C)) ⟨h.len,h.byte,fun q hq i hi=> ?_,fun y hy=>h.rest y fun hi=>hy ?_⟩ (perm_front A C _).symm
 ·rcases List.mem_cons.1 hq with rfl|hq
  ·have hu':=hu.perm ((perm_front A C _).map _);have h1:=ArIs.at hu' (o:=(x,List.replicate n 0)) (by simp);simp only at hi h1⊢;have e0:(List.replicate n (0:Int)).getD i 0=0:=by
    simp only[List.getD_eq_getElem?_getD,List.getElem?_replicate];split<;>rfl
   rw[e0];refine h.rest _ fun hin=> ?_
   obtain⟨e,he,hxe⟩:=hin;obtain⟨q,hq,rfl⟩:=List.mem_map.1 he;have h2:=ArIs.at hu' (o:=q) (List.mem_cons_of_mem _ hq);have hd:=(List.pairwise_cons.1 (show(x::(A++C).map (·.1)).Pairwise (fun a b=>¬meets a b)from hu'.dis)).1 q.1 (List.mem_map_of_mem hq);exact hd ((meets_iff h1.2.1 h2.2.1).2 ⟨_,by unfold inE;omega,hxe⟩)
  ·exact h.obj q hq i hi
 ·obtain⟨e,he,hxe⟩:=hi;exact⟨e,by rw[List.map_cons];exact List.mem_cons_of_mem _ he,hxe⟩
theorem ArIs.free (h:ArIs size (A++o::C) B) (hu:UsedOk size ((A++o::C).map (·.1))):ArIs size (A++C) (overlay B o.1.1.toNat (List.replicate o.1.2.toNat 0)):=by
 replace h:=h.perm (perm_front A C o);replace hu:=hu.perm ((perm_front A C o).map _);have h1:=ArIs.at hu (o:=o) (by simp);have hlen:=h.len;have hfit:o.1.1.toNat+(List.replicate o.1.2.toNat (0:Int)).length≤B.length:=by rw[List.length_replicate];omega
 refine⟨by rw[overlay_len hfit];exact hlen,overlay_mem h.byte fun x hx=>by rw[List.eq_of_mem_replicate hx];omega,fun q hq i hi=> ?_,fun x hx=> ?_⟩
 ·have:=others hu hq hi;rw[overlay_get hfit,List.length_replicate,if_neg (by omega),h.obj q (List.mem_cons_of_mem _ hq) i hi]
 ·rw[overlay_get hfit,List.length_replicate];by_cases c:o.1.1.toNat≤x∧x<o.1.1.toNat+o.1.2.toNat
  ·rw[if_pos c];simp only[List.getD_eq_getElem?_getD,List.getElem?_replicate];split<;>rfl
  ·rw[if_neg c];refine h.rest x fun hi=> ?_
   rw[List.map_cons,inS_cons]at hi;rcases hi with hi|hi
   ·unfold inE at hi;omega
   ·exact hx hi
end
def leB (v:Int):Nat→List Int
 |0=>[]
 |k+1=>v%256::leB (v/256) k
theorem leB_len (v:Int) (k:Nat):(leB v k).length=k:=by
 induction k generalizing v with
 |zero=>rfl
 |succ k ih=>simp[leB,ih]
theorem leB_bytes (v:Int) (k:Nat):∀b∈leB v k,0≤b∧b≤255:=by
 induction k generalizing v with
 |zero=>simp[leB]
 |succ k ih=>
  intro b hb;rcases List.mem_cons.1 hb with rfl|hb
  ·omega
  ·exact ih _ b hb
end Go.Proofs.YtgfdeiijblakfaaGreat
namespace Go.Proofs.YtgfdeiijblakfaaGreat
open Go Go.RowKit Go.Stg
def sizeStep (s:Int):Int:=if s<128 then 16 else if s<2048 then s else 2048
def sizesFrom (s:Int):Nat→List Int
 |0=>[]
 |k+1=>s::sizesFrom (s+sizeStep s) k
def sizesL:List Int:=sizesFrom 16 43
theorem sizes_len:sizesL.length=43:=by decide
def sizeAt (k:Nat):Int:=sizesL.getD k 0
theorem sizes_facts:∀k:Fin 43,16≤sizeAt k∧sizeAt k≤65536∧sizeAt k%16=0∧(k.1+1<43→sizeAt (k.1+1)=sizeAt k+sizeStep (sizeAt k)):=by decide
theorem size_at {k:Nat} (hk:k<43):16≤sizeAt k∧sizeAt k≤65536∧sizeAt k%16=0:=let h:=sizes_facts ⟨k,hk⟩;⟨h.1,h.2.1,h.2.2.1⟩
theorem size_next {k:Nat} (hk:k+1<43):sizeAt (k+1)=sizeAt k+sizeStep (sizeAt k):=(sizes_facts ⟨k,by omega⟩).2.2.2 hk
theorem size_last:sizeAt 42=65536:=by decide
theorem sizeStep_pos {k:Nat} (hk:k<43):16≤sizeStep (sizeAt k)∧sizeStep (sizeAt k)≤2048:=by
 have:=size_at hk;unfold sizeStep;split
 ·omega
 ·split<;>omega
theorem size_asc:∀ {i j:Nat},i<j→j<43→sizeAt i<sizeAt j
 |i,0,h,_=>by omega
 |i,j+1,h,hj=>by
  have h1:=size_next hj;have h2:=sizeStep_pos (k:=j) (by omega);by_cases hij:i=j
  ·subst hij;omega
  ·have:=size_asc (i:=i) (j:=j) (by omega) (by omega);omega
def classN (n:Int):Nat:=(sizesL.filter fun s=>decide (s<n)).length
theorem class_spec {n:Int} (_h0:1≤n) (hn:n≤65536):classN n<43∧n≤sizeAt (classN n)∧∀k,k<classN n→sizeAt k<n:=by
 have key:∀(m s:Nat),m+s=43→∀l:List Int,(∀i,i<m→l[i]? =some (sizeAt (s+i)))→l.length=m→(∀k,k<s→sizeAt k<n)→
   s+(l.filter fun x=>decide (x<n)).length<43∧n≤sizeAt (s+(l.filter fun x=>decide (x<n)).length)∧∀k,k<s+(l.filter fun x=>decide (x<n)).length→sizeAt k<n:=by
  intro m;induction m with
  |zero=>
   intro s hs l _ _ hk;exfalso;have:=hk 42 (by omega);rw[size_last]at this;omega
  |succ m ih=>
   intro s hs l hl hlen hk;match l,hl,hlen with
   |x::l,hl,hlen=>
    have hx:x=sizeAt s:=by have:=hl 0 (by omega);simpa using this
    by_cases hlt:sizeAt s<n
    ·have:=ih (s+1) (by omega) l (fun i hi=>by have:=hl (i+1) (by omega);simp at this;rw[this];congr 2;omega) (by simpa using hlen) (fun k hk'=>by
      by_cases hks:k=s
      ·subst hks;exact hlt
      ·exact hk k (by omega))
     rw[List.filter_cons_of_pos (by rw[hx];simpa using hlt),List.length_cons];rw[show s+((l.filter fun x=>decide (x<n)).length+1)=s+1+(l.filter fun x=>decide (x<n)).length by omega];exact this
    ·have hnil:l.filter (fun x=>decide (x<n))=[]:=by
      rw[List.filter_eq_nil_iff];intro y hy;obtain⟨i,hi⟩:=List.mem_iff_getElem?.1 hy;have hi':i<m:=by have:=(List.getElem?_eq_some_iff.1 hi).1;simp at hlen;omega
      have:=hl (i+1) (by omega);simp[hi]at this;have hlt2:=size_asc (i:=s) (j:=s+(i+1)) (by omega) (by omega);simp;omega
     rw[List.filter_cons_of_neg (by rw[hx];simpa using hlt),hnil];simp;exact⟨by omega,by omega,hk⟩
 have:=key 43 0 rfl sizesL (fun i hi=>by
  unfold sizeAt;have:i<sizesL.length:=by rw[sizes_len];exact hi
  simp[List.getD_eq_getElem?_getD,List.getElem?_eq_getElem this]) sizes_len (by omega)
 simpa[classN]using this
def roundE (n:Int):Int:=if n<1 then 1 else if 65536<n then 4 else 0
def roundN (n:Int):Int:=if n<1 then 0 else if 65536<n then 0 else sizeAt (classN n)
theorem round_spec {n:Int} (h0:1≤n) (hn:n≤65536):roundE n=0∧n≤roundN n∧16≤roundN n∧roundN n≤65536:=by
 have h:=class_spec h0 hn;have h2:=size_at h.1;unfold roundE roundN;rw[if_neg (by omega),if_neg (by omega),if_neg (by omega),if_neg (by omega)];exact⟨rfl,h.2.1,h2.1,h2.2.1⟩
theorem round_at {n:Int} {k:Nat} (hk:k<43) (hn:n≤sizeAt k) (hlow:∀j,j<k→sizeAt j<n) (h0:1≤n):roundN n=sizeAt k∧roundE n=0∧classN n=k:=by
 have h2:=size_at hk;have h:=class_spec h0 (by omega);have:classN n=k:=by
  rcases Nat.lt_trichotomy (classN n) k with hlt|he|hgt
  ·have:=hlow _ hlt;omega
  ·exact he
  ·have:=h.2.2 k hgt;omega
 unfold roundE roundN;rw[if_neg (by omega),if_neg (by omega),if_neg (by omega),if_neg (by omega),this];exact⟨rfl,rfl,rfl⟩
end Go.Proofs.YtgfdeiijblakfaaGreat
