/- Joined contracts. No conditions. -/
import Derived.Test.YtdehaommhbjakaaGreatC18
namespace Go.Proofs.YtdehaommhbjakaaGreat
open RowKit Stg
theorem D4 {α:Type} (A C:List α) (x:α):(A++C++[x]).Perm (A++x::C):=by
 rw[List.append_assoc];exact(List.perm_append_comm (l₁:=C) (l₂:=[x])).append_left A
section
variable {c:HC} {k:Nat} {s:HS}
theorem FE {o:Int} (h:Tb.bF s.T o=0) {j:Nat} (hj:Tb.aJ o=j):a8 s o=Tb.aD s.T.E j:=by
 unfold a8 Tb.mJ;rw[if_pos h,hj,Int.toNat_natCast]
theorem lC (hI:az c k s) {o:Int} (h:Tb.bF s.T o=0):∃j:Nat,Tb.aJ o=j∧j<c.n∧(Tb.aC s.T.g.S j).2=true∧a8 s o=Tb.aD s.T.E j∧(Tb.aD s.T.E j).h=o:=by
 obtain⟨j,hj,hjl,hlv,hg,ht⟩:=Tb.kH h;have hl:=hI.ew.g.len;have hn:j<c.n:=by omega
 refine⟨j,hj,hn,hlv,FE h hj,?_⟩;rw[(hI.ew.ok j hn hlv).2,hg,ht, ←hj];exact Tb.B5 o
theorem gi {p o acc:Int} (h:aV s p o acc=0):Tb.bF s.T o=0:=by
 unfold aV at h;by_cases c:Tb.bF s.T o=0
 ·exact c
 ·rw[if_neg c]at h;exact absurd h c
theorem wV (hI:az c k s) {p o:Int} (h:aV s p o 3=0):(a8 s o).owner=p∧∀b∈s.L,b.1.1≠Tb.aJ o:=by
 have hr:=gi h;unfold aV at h;rw[if_pos hr]at h;unfold Bw.kZ at h;rw[if_neg (by omega)]at h;by_cases ho:(a8 s o).owner=p
 ·refine⟨ho,fun b hb e=> ?_⟩;rw[show decide ((a8 s o).owner=p)=true by simp[ho],if_pos rfl]at h;have hm:=Bw.ow hI.e9 hb e;rcases hI.e9.mode b hb with h1|h1
  ·rw[hm,h1]at h;simp at h
  ·rw[hm,h1]at h;simp at h
 ·rw[show decide ((a8 s o).owner=p)=false by simp[ho],if_neg (by simp),if_pos (by simp)]at h;cases h
theorem sk {s':HS} {m:Nat} (h1:Tb.aC s'.T.g.S m=Tb.aC s.T.g.S m) (h2:Tb.aD s'.T.E m=Tb.aD s.T.E m):eS s'.T m=eS s.T m:=by
 unfold eS;rw[h1,h2]
theorem nk {s:HS} {j:Nat} (h:(Tb.aC s.T.g.S j).2=true):jx s j=some (dD (Tb.aD s.T.E j),bH s j):=by unfold jx;rw[mc h];rfl
theorem yQ {s:HS} {j:Nat} (h:(Tb.aC s.T.g.S j).2=false):jx s j=none:=by unfold jx;rw[ss h];rfl
structure o9 (c:HC) (k:Nat) (s s':HS) (x:Ob) (p:Int):Prop where
 inv:az c k s'
 ct:∃A C,ct c s=A++x::C∧ct c s'=A++C
 has:∀q,aF c s q=if q=p then(aF c s' q).add (wq x.1.2)else aF c s' q
theorem Gp {x y:Qt.Q} {w:Int} (h:ku (x.add (wq w)) y) (hw:0<w):ku x y:=by
 unfold ku Qt.Q.add wq at*;simp only at*;omega
theorem xg (hI:az c k s) {o:Int} (h:Tb.bF s.T o=0) {j:Nat} (hj:Tb.aJ o=j) (hb:∀b∈s.L,b.1.1≠Tb.aJ o):o9 c k s (il s o) (dD (Tb.aD s.T.E j),bH s j) (Tb.aD s.T.E j).owner:=by
 obtain⟨hjn,hlv,hdd,hE,hoth⟩:=CU hI.ew h hj;have hml:=hI.k9;have hmem:∀m,bH (il s o) m=if m=j then []else bH s m:=fun m=>by
  unfold il;rw[hj,Int.toNat_natCast];exact sQ (by omega) m
 obtain⟨A,C,A',C',q1,q2,q3,q4⟩:=qd (s:=s) (s':=il s o) hjn fun m hm=>⟨sk (hoth m hm) (by rw[show(il s o).T.E=s.T.E from hE]),by rw[hmem,if_neg hm]⟩
 rw[mc hlv]at q1;rw[show(il s o).T=Tb.gP s.T o from rfl,ss hdd]at q2;rw[nk hlv]at q3;rw[yQ (s:=il s o) hdd]at q4;have hL:(il s o).L=s.L:=rfl;have hlen:0<(Tb.aD s.T.E j).len:=by
  have:=hI.eA.len (e:=dD (Tb.aD s.T.E j)) (List.mem_map_of_mem (ic hjn hlv));exact this
 have hhas:∀q,aF c s q=if q=(Tb.aD s.T.E j).owner then(aF c (il s o) q).add (wq (Tb.aD s.T.E j).len)else aF c (il s o) q:=fun q=>by
  unfold aF;rw[q1,q2,hL];exact qt q
 refine⟨az.slot hI hjn (hI.ew.drop o) rfl rfl rfl rfl rfl (by unfold il;rw[List.length_set];exact hml) (fun m hm=>⟨hoth m hm,by rw[show(il s o).T.E=s.T.E from hE],by rw[hmem,if_neg hm]⟩) ?_ (fun hl=> ?_) (fun _=>by rw[hmem,if_pos rfl]) (by rw[hmem,if_pos rfl];simp) (fun b hb' e=>absurd (e.trans hj.symm) (hb b hb')) (fun q=> ?_),⟨A',C',q3,q4⟩,hhas⟩
 ·have hu:=hI.eA;rw[←ft]at hu⊢;rw[q3]at hu;rw[q4];simp only[Option.toList,List.cons_append,List.nil_append,List.map_append,List.map_cons]at hu⊢;exact(qi hu).1
 ·exact absurd (hdd.symm.trans hl) (by simp)
 ·have h1:=hI.lim q;rw[show((aF c s q).b≤c.lim.b∧(aF c s q).o≤c.lim.o∧(aF c s q).r≤c.lim.r)=ku (aF c s q) c.lim from rfl,hhas q]at h1;by_cases e:q=(Tb.aD s.T.E j).owner
  ·rw[if_pos e]at h1;exact Gp h1 hlen
  ·rw[if_neg e]at h1;exact h1
theorem s4 (hI:az c k s) {o:Int} (h:Tb.bF s.T o=0) {j:Nat} (hj:Tb.aJ o=j) {off:Int} (h0:0≤off) {b:List Int} (hfit:off+b.length≤(bH s j).length) (hb:∀x∈b,0≤x∧x≤255):
  az c k (dw s o off b)∧(∃A C,ct c s=A++(dD (Tb.aD s.T.E j),bH s j)::C∧ct c (dw s o off b)=A++(dD (Tb.aD s.T.E j),ca (bH s j) off.toNat b)::C)∧aF c (dw s o off b)=aF c s∧bA c (dw s o off b)=bA c s:=by
 obtain⟨j',hj',hjn,hlv,_,_⟩:=lC hI h;obtain rfl:j=j':=by omega
 have hml:=hI.k9;have hby:dY s o=bH s j:=by unfold dY;rw[hj,Int.toNat_natCast]
 have hmem:∀m,bH (dw s o off b) m=if m=j then ca (bH s j) off.toNat b else bH s m:=fun m=>by
  unfold dw;rw[hj,Int.toNat_natCast,hby];exact sQ (T:=s.T) (by omega) m
 have hT:(dw s o off b).T=s.T:=rfl;have hus:bA c (dw s o off b)=bA c s:=rfl;have hhs:aF c (dw s o off b)=aF c s:=rfl;obtain⟨_,_,A',C',_,_,q3,q4⟩:=qd (s:=s) (s':=dw s o off b) hjn fun m hm=>⟨rfl,by rw[hmem,if_neg hm]⟩
 rw[nk hlv]at q3;rw[nk (s:=dw s o off b) hlv,hmem,if_pos rfl]at q4;have hlen:=cN (l:=bH s j) (b:=b) (off:=off.toNat) (by omega);refine⟨az.slot hI hjn hI.ew rfl rfl rfl rfl rfl (by unfold dw;rw[List.length_set];exact hml) (fun m hm=>⟨rfl,rfl,by rw[hmem,if_neg hm]⟩) (by rw[hus];exact hI.eA) (fun hl=>⟨hI.cG _ (ic hjn hlv),?_⟩) (fun hd=> ?_) ?_ (fun b' hb' e=> ?_) (fun q=>by rw[hhs];exact hI.lim q),⟨A',C',q3,q4⟩,hhs,hus⟩
 ·rw[hmem,if_pos rfl,hlen];exact hI.mem j hjn hlv
 ·exact absurd (hlv.symm.trans hd) (by simp)
 ·rw[hmem,if_pos rfl];exact iD (hI.ko j) hb
 ·obtain⟨_,m,e2,h2,h3⟩:=hI.jE b' hb';obtain rfl:m=j:=by omega
  exact⟨h2,h3⟩
theorem A7 {p tag:Int} (h:cS c s p tag=0):Ty.ee s.R tag=0∧Qt.cj c.lim (aF c s p) (wq (cB (bI s tag)))=0∧0<s.T.g.F.length∧∃b,cT (cB (bI s tag)) (im c s)=some b:=by
 unfold cS at h;split at h
 ·cases h
 ·rename_i h1;split at h
  ·cases h
  ·rename_i h2;split at h
   ·cases h
   ·rename_i h3;split at h
    ·cases h
    ·rename_i h4;refine⟨Classical.byContradiction h1,Classical.byContradiction h2,by omega,?_⟩
     cases hb:cT (cB (bI s tag)) (im c s)with
     |none=>exact absurd hb h4
     |some b=>exact⟨b,rfl⟩
structure tU (c:HC) (k:Nat) (s s':HS) (x:Ob) (p:Int):Prop where
 inv:az c k s'
 ct:∃A C,ct c s=A++C∧ct c s'=A++x::C
 has:∀q,aF c s' q=if q=p then(aF c s q).add (wq x.1.2)else aF c s q
theorem pQ (hc:c.Ok) (hI:az c k s) {p tag d:Int} (hp:s.st p=1) (h:cS c s p tag=0):Tb.jo s.T p tag∧tU c k s (df c s p tag d) (bJ c s tag,List.replicate (bI s tag).toNat 0) p:=by
 obtain⟨ht,hf,hF,b,hb⟩:=A7 h;obtain⟨htr,hty⟩:=az.ty hc hI tag ht;have hps:1≤p∧p≤64:=by
  rcases hI.st p with h'|⟨h',_⟩
  ·rw[h']at hp;cases hp
  ·exact h'
 have hsz:1≤bI s tag∧bI s tag≤65536:=size_pos hty;obtain⟨r1,r2,r3,r4⟩:=nU hsz.1 hsz.2;have hok:Tb.jo s.T p tag:=⟨by have:=hI.lQ;unfold Tb.kQ;omega,hF⟩;refine⟨hok,?_⟩;obtain⟨hjn,hd,hl,he,hoth⟩:=x7 hI.ew hc.f1 hc.f2 (bJ c s tag).1 (bJ c s tag).2 d hok;generalize hj:Tb.bT s.T.g.F d=j at*;have hS:df c s p tag d={s with T:=Tb.dp c.first s.T p tag (bJ c s tag).1 (bJ c s tag).2 d,mem:=s.mem.set j (List.replicate (bI s tag).toNat 0)}:=by unfold df;rw[if_pos h,hj]
 have hml:=hI.k9;rw[hS];have hmem:=fun m=>sQ (s:=s) (j:=j) (by omega) (l:=List.replicate (bI s tag).toNat 0) (T:=Tb.dp c.first s.T p tag (bJ c s tag).1 (bJ c s tag).2 d) m
 generalize hs':({s with T:=Tb.dp c.first s.T p tag (bJ c s tag).1 (bJ c s tag).2 d,mem:=s.mem.set j (List.replicate (bI s tag).toNat 0)}:HS)=s' at*;have hT:s'.T=Tb.dp c.first s.T p tag (bJ c s tag).1 (bJ c s tag).2 d:=by rw[←hs']
 have hL:s'.L=s.L:=by rw[←hs']
 have hx2:(bJ c s tag).2=cB (bI s tag):=rfl;have hx1:(bJ c s tag).1=b.1:=by unfold bJ;rw[hb];rfl
 have hent:Tb.aD s'.T.E j=Tb.j9 c.first s.T p tag (bJ c s tag).1 (bJ c s tag).2 d:=by rw[hT];exact he
 have hlj:(Tb.aC s'.T.g.S j).2=true:=by rw[hT];exact hl
 have ho:∀m,m≠j→Tb.aC s'.T.g.S m=Tb.aC s.T.g.S m∧Tb.aD s'.T.E m=Tb.aD s.T.E m:=fun m hm=>by rw[hT];exact hoth m hm
 obtain⟨A,C,A',C',q1,q2,q3,q4⟩:=qd (s:=s) (s':=s') hjn fun m hm=>⟨sk (ho m hm).1 (ho m hm).2,by rw[hmem,if_neg hm]⟩
 rw[ss hd]at q1;rw[mc hlj,hent]at q2;rw[yQ hd]at q3;rw[nk hlj,hent,hmem,if_pos rfl]at q4;have hhas:∀q,aF c s' q=if q=p then(aF c s q).add (wq (bJ c s tag).2)else aF c s q:=fun q=>by
  unfold aF;rw[q1,q2,hL];exact qt (e:=Tb.j9 c.first s.T p tag (bJ c s tag).1 (bJ c s tag).2 d) q
 have hpx:proper (bJ c s tag)∧b∈im c s∧(bJ c s tag).1+(bJ c s tag).2≤b.1+b.2:=by
  obtain⟨m1,m2⟩:=pT hb;have:=(hI.eA.free hc.s1).vs.1 b m1;unfold proper at*;refine⟨?_,m1,?_⟩
  ·rw[hx1,hx2];omega
  ·rw[hx1,hx2];omega
 obtain⟨D,G,hDG⟩:=List.append_of_mem hpx.2.1;have hfree:=hI.eA.free hc.s1;have hfree':dm c.size (bA c s) (D++b::G):=by rw[←hDG];exact hfree
 obtain⟨_,hu⟩:=hfree'.alloc hI.eA hpx.1 (by rw[hx1];omega) hpx.2.2;have hus:cJ c.size (bA c s'):=by
  refine hu.perm ?_;rw[←ft, ←ft,q3,q4];simp only[Option.toList,List.cons_append,List.nil_append,List.map_append,List.map_cons];exact D4 _ _ _
 refine⟨az.slot hI hjn (by rw[hT];exact hI.ew.oZ hc.f1 hc.f2 p tag _ _ d) (by rw[←hs']) (by rw[←hs']) hL (by rw[←hs']) (by rw[←hs']) (by rw[←hs'];simp only[List.length_set];exact hml) (fun m hm=>⟨(ho m hm).1,(ho m hm).2,by rw[hmem,if_neg hm]⟩) hus (fun _=> ?_) (fun hdd=> ?_) ?_ (fun b' hb' e=> ?_) (fun q=> ?_),⟨A',C',q3,?_⟩,hhas⟩
 ·rw[hent,hmem,if_pos rfl];refine⟨⟨hp,htr,rfl⟩,?_⟩;simp only[List.length_replicate,Tb.j9];omega
 ·exact absurd (hlj.symm.trans hdd) (by simp)
 ·rw[hmem,if_pos rfl];intro x hx;rw[List.eq_of_mem_replicate hx];omega
 ·obtain⟨_,m,e2,h2,_⟩:=hI.jE b' hb';obtain rfl:m=j:=by omega
  rw[hd]at h2;cases h2
 ·rw[hhas q];by_cases e:q=p
  ·rw[if_pos e,e,hx2];exact tx hf
  ·rw[if_neg e];exact hI.lim q
 ·exact q4
end
end Go.Proofs.YtdehaommhbjakaaGreat
namespace Go.Proofs.YtdehaommhbjakaaGreat
open RowKit Stg
section
variable {c:HC} {k:Nat} {s:HS}
theorem D5 (hI:az c k s) {o q:Int} (h:Tb.bF s.T o=0) {j:Nat} (hj:Tb.aJ o=j) (hb:∀b∈s.L,b.1.1≠Tb.aJ o) (hq:s.st q=1) (hne:q≠(Tb.aD s.T.E j).owner) (hf:Qt.cj c.lim (aF c s q) (wq (Tb.aD s.T.E j).len)=0):
  az c k {s with T:=Tb.dR s.T o q}∧ct c {s with T:=Tb.dR s.T o q}=ct c s∧Tb.kV s.T o q=0∧
  ∀p,aF c {s with T:=Tb.dR s.T o q} p=if p=q then(aF c s p).add (wq (Tb.aD s.T.E j).len)else if p=(Tb.aD s.T.E j).owner then(aF c s p).sub (wq (Tb.aD s.T.E j).len)else aF c s p:=by
 have hq64:1≤q∧q≤64:=by
  rcases hI.st q with h'|⟨h',_⟩
  ·rw[h']at hq;cases hq
  ·exact h'
 have hbo:¬Tb.jC q:=by unfold Tb.jC;omega
 obtain⟨hjn,hlv,hg,he,hoth⟩:=Cs hI.ew h hbo hj;have hml:=hI.k9;generalize hs':({s with T:=Tb.dR s.T o q}:HS)=s' at*;have hT:s'.T=Tb.dR s.T o q:=by rw[←hs']
 have hL:s'.L=s.L:=by rw[←hs']
 have hmem:∀m,bH s' m=bH s m:=fun m=>by rw[←hs'];rfl
 have hS:∀m,Tb.aC s'.T.g.S m=Tb.aC s.T.g.S m:=fun m=>by rw[hT,hg]
 have ho:∀m,m≠j→Tb.aC s'.T.g.S m=Tb.aC s.T.g.S m∧Tb.aD s'.T.E m=Tb.aD s.T.E m:=fun m hm=>⟨hS m,by rw[hT];exact hoth m hm⟩
 have hlj:(Tb.aC s'.T.g.S j).2=true:=by rw[hS];exact hlv
 have hent:Tb.aD s'.T.E j={Tb.aD s.T.E j with owner:=q}:=by rw[hT];exact he
 obtain⟨A,C,A',C',q1,q2,q3,q4⟩:=qd (s:=s) (s':=s') hjn fun m hm=>⟨sk (ho m hm).1 (ho m hm).2,hmem m⟩
 rw[mc hlv]at q1;rw[mc hlj,hent]at q2;rw[nk hlv]at q3;rw[nk hlj,hent,hmem]at q4;have hob:ct c s'=ct c s:=by rw[q3,q4];rfl
 have hlen:0<(Tb.aD s.T.E j).len:=by
  have:=hI.eA.len (e:=dD (Tb.aD s.T.E j)) (List.mem_map_of_mem (ic hjn hlv));exact this
 have hhas:∀p,aF c s' p=if p=q then(aF c s p).add (wq (Tb.aD s.T.E j).len)else if p=(Tb.aD s.T.E j).owner then(aF c s p).sub (wq (Tb.aD s.T.E j).len)else aF c s p:=fun p=>by
  unfold aF;rw[q1,q2,hL];have i1:=qt (A:=A) (C:=C) (e:=Tb.aD s.T.E j) (L:=s.L) p;have i2:=qt (A:=A) (C:=C) (e:={Tb.aD s.T.E j with owner:=q}) (L:=s.L) p;simp only[Option.toList,List.cons_append,List.nil_append]at i1 i2⊢;rw[i1,i2];by_cases e1:p=q
  ·subst e1;rw[if_pos rfl,if_neg hne,if_pos rfl];rfl
  ·rw[if_neg e1,if_neg e1];by_cases e2:p=(Tb.aD s.T.E j).owner
   ·rw[if_pos e2,if_pos e2];unfold Qt.Q.sub Qt.Q.add wq;simp only;generalize lI (A++C) s.L p=z;obtain⟨z1,z2,z3⟩:=z;simp only[Qt.Q.mk.injEq];omega
   ·rw[if_neg e2,if_neg e2]
 refine⟨az.slot hI hjn (by rw[hT];exact hI.ew.tY o q) (by rw[←hs']) (by rw[←hs']) hL (by rw[←hs']) (by rw[←hs']) (by rw[←hs'];exact hml) (fun m hm=>⟨(ho m hm).1,(ho m hm).2,hmem m⟩) (by rw[←ft,hob,ft];exact hI.eA) (fun _=> ?_) (fun hdd=>absurd (hlj.symm.trans hdd) (by simp)) (by rw[hmem];exact hI.ko j) (fun b hb' e=>absurd (e.trans hj.symm) (hb b hb')) (fun p=> ?_),hob,?_,hhas⟩
 ·obtain⟨e1,e2,e3⟩:=hI.cG _ (ic hjn hlv);rw[hent,hmem];exact⟨⟨hq,e2,e3⟩,hI.mem j hjn hlv⟩
 ·rw[hhas p];by_cases e1:p=q
  ·rw[if_pos e1,e1];exact tx hf
  ·rw[if_neg e1];by_cases e2:p=(Tb.aD s.T.E j).owner
   ·rw[if_pos e2];have:=hI.lim p;unfold ku Qt.Q.sub wq;simp only;omega
   ·rw[if_neg e2];exact hI.lim p
 ·unfold Tb.kV;rw[if_pos h,if_neg hbo]
theorem Ag {L:List Bw.ak} {b:Bw.ak} (hg:Bw.aK L b.1=none) (q:Int):(Bw.jt (Bw.gU L b) q).length=(if b.1.2=q then 1 else 0)+(Bw.jt L q).length:=by
 have hp:=(Bw.ig L b).filter fun x=>decide (x.1.2=q)
 rw[Bw.po hg]at hp;unfold Bw.jt;rw[hp.length_eq,List.filter_cons];by_cases h:b.1.2=q
 ·simp[h];omega
 ·simp[h]
theorem rn {L:List Bw.ak} (hn:(L.map (·.1)).Nodup) {kk:Int×Int} {b:Bw.ak} (hg:Bw.aK L kk=some b) (q:Int):(Bw.jt L q).length=(if kk.2=q then 1 else 0)+(Bw.jt (Bw.bW L kk) q).length:=by
 have hp:=(Bw.om hn hg).filter fun x=>decide (x.1.2=q)
 have hk:=(Bw.iF hg).2;unfold Bw.jt;rw[hp.length_eq,List.filter_cons,hk];by_cases h:kk.2=q
 ·simp[h];omega
 ·simp[h]
theorem uC {L:List Bw.ak} (hn:(L.map (·.1)).Nodup) {x b:Bw.ak} (hg:Bw.aK L b.1=some x) (q:Int):(Bw.jt (Bw.gU L b) q).length=(Bw.jt L q).length:=by
 have hp:=(Bw.ig L b).filter fun x=>decide (x.1.2=q)
 have h2:=rn hn hg q;unfold Bw.jt at*;rw[hp.length_eq,List.filter_cons,h2];by_cases h:b.1.2=q
 ·simp[h];omega
 ·simp[h]
theorem az.ub (hI:az c k s) {L':List Bw.ak} {k':Nat} (hkk:k≤k') (h1:Bw.dF k' L') (h2:L'.length≤k') (hb:∀b∈L',s.st b.1.2=1∧∃j:Nat,b.1.1=j∧(Tb.aC s.T.g.S j).2=true∧(Tb.aD s.T.E j).owner≠b.1.2) (hl:∀p,ku (aF c {s with L:=L'} p) c.lim):az c k' {s with L:=L'}:=
 ⟨hI.ew,h1,h2,hI.kA,hI.lQ,Nat.le_trans hI.kz hkk,hI.nJ,Nat.le_trans hI.lM hkk,hI.eA,hI.cG,hI.k9,hI.mem,hI.ko,hI.dead,hb,hl,hI.st⟩
theorem az.up (hI:az c k s) {k':Nat} (h:k≤k'):az c k' s:=by
 have:=hI.ub (L':=s.L) h (hI.e9.up (by omega)) (Nat.le_trans hI.jS h) hI.jE hI.lim;exact this
theorem xD (L':List Bw.ak) (p:Int):aF c {s with L:=L'} p=⟨(aF c s p).b,(aF c s p).o,((Bw.jt L' p).length:Nat)⟩:=rfl
theorem mC (p:Int):(aF c s p).r=((Bw.jt s.L p).length:Nat):=rfl
theorem qG (x:Qt.Q):(⟨x.b,x.o,x.r⟩:Qt.Q)=x:=rfl
theorem xQ (hI:az c k s) {o q m:Int} {j:Nat} (hj:Tb.aJ o=j) (hlv:(Tb.aC s.T.g.S j).2=true) (hq:s.st q=1) (hne:q≠(Tb.aD s.T.E j).owner) (hf:(Bw.aK s.L (Tb.aJ o,q)).isSome=false→Qt.cj c.lim (aF c s q) bq=0) (he:Bw.gq s.L (Tb.aJ o) m=0):
  az c (k+1) {s with L:=Bw.ei s.L (Tb.aJ o) q m}∧∀p,aF c {s with L:=Bw.ei s.L (Tb.aJ o) q m} p=if p=q∧(Bw.aK s.L (Tb.aJ o,q)).isSome=false then(aF c s p).add bq else aF c s p:=by
 have hhas:∀p,aF c {s with L:=Bw.ei s.L (Tb.aJ o) q m} p=if p=q∧(Bw.aK s.L (Tb.aJ o,q)).isSome=false then(aF c s p).add bq else aF c s p:=fun p=>by
  rw[xD];unfold Bw.ei;rw[if_pos he]
  cases hg:Bw.aK s.L (Tb.aJ o,q)with
  |none=>
   rw[Ag (b:=((Tb.aJ o,q),(m,Bw.gQ s.L (Tb.aJ o,q)+1))) hg];simp only[Option.isSome_none,and_true];by_cases e:p=q
   ·rw[if_pos e,if_pos e.symm];unfold Qt.Q.add bq;simp only[mC,Qt.Q.mk.injEq];omega
   ·rw[if_neg e,if_neg (Ne.symm e),Nat.zero_add, ←mC (c:=c),qG]
  |some b=>
   rw[uC (b:=((Tb.aJ o,q),(m,Bw.gQ s.L (Tb.aJ o,q)+1))) hI.e9.gE.nodup hg];simp only[Option.isSome_some,Bool.true_eq_false,and_false,if_false];rw[←mC (c:=c),qG]
 refine⟨hI.ub (by omega) (Bw.Eh hI.e9 (by omega) _ _ _) (Nat.le_trans (Bw.Fj _ _ _ _) (by have:=hI.jS;omega)) (fun b hb=> ?_) (fun p=> ?_),hhas⟩
 ·unfold Bw.ei at hb;rw[if_pos he]at hb;rcases Bw.j4.1 hb with rfl|⟨hb,_⟩
  ·exact⟨hq,j,hj,hlv,Ne.symm hne⟩
  ·exact hI.jE b hb
 ·rw[hhas p];split
  ·rename_i h;rw[h.1];exact tx (hf h.2)
  ·exact hI.lim p
theorem AV (hI:az c k s) {o p:Int} {b:Bw.ak} (hg:Bw.aK s.L (Tb.aJ o,p)=some b):
  az c k {s with L:=Bw.dH s.L (Tb.aJ o,p)}∧∀q,aF c {s with L:=Bw.dH s.L (Tb.aJ o,p)} q=if q=p∧(Bw.aK (Bw.dH s.L (Tb.aJ o,p)) (Tb.aJ o,p)).isSome=false then(aF c s q).sub bq else aF c s q:=by
 have hn:=hI.e9.gE.nodup;have hr:Bw.dH s.L (Tb.aJ o,p)=if b.2.2=1 then Bw.bW s.L (Tb.aJ o,p)else Bw.gU s.L ((Tb.aJ o,p),(b.2.1,b.2.2-1)):=by unfold Bw.dH;rw[hg]
 have hhas:∀q,aF c {s with L:=Bw.dH s.L (Tb.aJ o,p)} q=if q=p∧(Bw.aK (Bw.dH s.L (Tb.aJ o,p)) (Tb.aJ o,p)).isSome=false then(aF c s q).sub bq else aF c s q:=fun q=>by
  rw[xD,hr];by_cases e1:b.2.2=1
  ·rw[if_pos e1];have hw:=rn hn hg q;have hgn:Bw.aK (Bw.bW s.L (Tb.aJ o,p)) (Tb.aJ o,p)=none:=by
    unfold Bw.aK;rw[List.find?_eq_none];intro x hx;simpa using(Bw.px.1 hx).2
   rw[hgn];simp only[Option.isSome_none,and_true]at hw⊢;by_cases e:q=p
   ·rw[if_pos e.symm]at hw;rw[if_pos e];unfold Qt.Q.sub bq;simp only[mC,Qt.Q.mk.injEq];omega
   ·rw[if_neg (Ne.symm e),Nat.zero_add]at hw;rw[if_neg e, ←hw, ←mC (c:=c),qG]
  ·rw[if_neg e1];have hw:=uC (b:=((Tb.aJ o,p),(b.2.1,b.2.2-1))) hn hg q;have hgs:Bw.aK (Bw.gU s.L ((Tb.aJ o,p),(b.2.1,b.2.2-1))) (Tb.aJ o,p)=some ((Tb.aJ o,p),(b.2.1,b.2.2-1)):=
    Bw.yC (b:=((Tb.aJ o,p),(b.2.1,b.2.2-1))) (Bw.yr hI.e9.gE _).nodup (Bw.j4.2 (.inl rfl))
   rw[hw,hgs];simp only[Option.isSome_some,Bool.true_eq_false,and_false,if_false];rw[←mC (c:=c),qG]
 refine⟨hI.ub (Nat.le_refl _) (Bw.yi hI.e9 _) (Nat.le_trans (Bw.FO hn _) hI.jS) (fun x hx=> ?_) (fun q=> ?_),hhas⟩
 ·rw[hr]at hx;split at hx
  ·exact hI.jE x (Bw.px.1 hx).1
  ·rcases Bw.j4.1 hx with rfl|⟨hx,_⟩
   ·have hb:=Bw.iF hg;have:=hI.jE b hb.1;rw[hb.2]at this;exact this
   ·exact hI.jE x hx
 ·rw[hhas q];have:=hI.lim q;split
  ·unfold ku Qt.Q.sub bq;simp only;omega
  ·exact this
theorem ze (hI:az c k s) {e:Ev} (he:e.ok):az c (k+1) {s with evs:=s.evs++[e]}:=by
 have h:=hI.up (Nat.le_succ k);exact⟨h.ew,h.e9,h.jS,h.kA,h.lQ,by simp;exact hI.kz,fun x hx=>by
  rcases List.mem_append.1 hx with hx|hx
  ·exact hI.nJ x hx
  ·rw[List.mem_singleton.1 hx];exact he,h.lM,h.eA,h.cG,h.k9,h.mem,h.ko,h.dead,h.jE,h.lim,h.st⟩
theorem xV (hI:az c k s) (p:Int):az c (k+1) {s with miss:=s.miss++[p]}:=by
 have h:=hI.up (Nat.le_succ k);exact⟨h.ew,h.e9,h.jS,h.kA,h.lQ,h.kz,h.nJ,by simp;exact hI.lM,h.eA,h.cG,h.k9,h.mem,h.ko,h.dead,h.jE,h.lim,h.st⟩
theorem Fu (hI:az c k s) {e:Ev} (he:e.ok):az c (k+1) (eK c s e):=by
 unfold eK;split
 ·exact ze hI he
 ·exact xV hI e.p
end
end Go.Proofs.YtdehaommhbjakaaGreat
namespace Go.Proofs.YtdehaommhbjakaaGreat.Bw
open RowKit Stg
def cm (es:Array MapEntry) (L:List ak):Prop:=cL es.toList∧∀o,bU o es.toList=if aW L o=[]then none else some (.int .i64 ((aW L o).length:Nat))
theorem cm.is {w:World} {c ck:Nat} {es:Array MapEntry} {L:List ak} (h:cm es L) (hb:w.heap[c]? =some (.map es ck)):fz w c L:=⟨es,ck,hb,h.1,h.2⟩
theorem fz.at {w:World} {c:Nat} {L:List ak} (h:fz w c L):∃es ck,w.heap[c]? =some (.map es ck)∧cm es L:=let ⟨es,ck,h1,h2,h3⟩:=h;⟨es,ck,h1,h2,h3⟩
theorem mq {α:Type} (l:List α):l=[]↔l.length=0:=by cases l<;>simp
theorem cm.same {es:Array MapEntry} {L M:List ak} (h:cm es L) (he:∀o,(aW M o).length=(aW L o).length):cm es M:=by
 refine⟨h.1,fun o=> ?_⟩;rw[h.2 o,he o];simp only[mq,he o]
theorem fz.same {w:World} {c:Nat} {L M:List ak} (h:fz w c L) (he:∀o,(aW M o).length=(aW L o).length):fz w c M:=by
 obtain⟨es,ck,h1,h2⟩:=h.at;exact(h2.same he).is h1
theorem cm.nil:cm #[] []:=⟨trivial,fun _=>rfl⟩
theorem cm.get {es:Array MapEntry} {L:List ak} (h:cm es L) (o:Int):(bU o es.toList).getD (.int .i64 0)=.int .i64 ((aW L o).length:Nat):=by
 rw[h.2 o];split
 ·rename_i h;rw[h];rfl
 ·rfl
theorem cm.more {es:Array MapEntry} {L M:List ak} (h:cm es L) {o:Int} (he:∀q,(aW M q).length=(if o=q then 1 else 0)+(aW L q).length) (ck:Nat) {n:Int} (hn:n=(aW L o).length+1):cm (c9 o (.int .i64 n) ck es).1 M:=by
 obtain⟨h1,h2⟩:=kE o (.int .i64 n) ck es h.1;refine⟨h1,fun q=> ?_⟩;rw[h2 q];have hq:=he q;by_cases hqo:q=o
 ·subst hqo;rw[if_pos rfl]at hq⊢;rw[if_neg (by rw[mq];omega)];rw[show n=((aW M q).length:Int)from by omega]
 ·rw[if_neg (fun e=>hqo e.symm)]at hq;rw[if_neg hqo,h.2 q];simp only[mq,hq,Nat.zero_add]
theorem cm.less {es:Array MapEntry} {L M:List ak} (h:cm es L) {o:Int} (he:∀q,(aW L q).length=(if o=q then 1 else 0)+(aW M q).length) (ck:Nat) {n:Int} (hn:n=(aW L o).length-1) (h0:n≠0):cm (c9 o (.int .i64 n) ck es).1 M:=by
 obtain⟨h1,h2⟩:=kE o (.int .i64 n) ck es h.1;refine⟨h1,fun q=> ?_⟩;rw[h2 q];have hq:=he q;by_cases hqo:q=o
 ·subst hqo;rw[if_pos rfl]at hq⊢;rw[if_neg (by rw[mq];omega)];rw[show n=((aW M q).length:Int)from by omega]
 ·rw[if_neg (fun e=>hqo e.symm)]at hq;rw[if_neg hqo,h.2 q];simp only[mq,hq,Nat.zero_add]
theorem cm.last {es:Array MapEntry} {L M:List ak} (h:cm es L) {o:Int} (he:∀q,(aW L q).length=(if o=q then 1 else 0)+(aW M q).length) (ck:Nat) (v:Value) (hn:(aW L o).length=1):cm (lS o (c9 o v ck es).1) M:=by
 obtain⟨h1,h2⟩:=kE o v ck es h.1;obtain⟨k1,k2⟩:=wy o _ h1;refine⟨k1,fun q=> ?_⟩;rw[k2 q,h2 q];have hq:=he q;by_cases hqo:q=o
 ·subst hqo;rw[if_pos rfl]at hq⊢;rw[if_pos (by rw[mq];omega)]
 ·rw[if_neg (fun e=>hqo e.symm)]at hq;rw[if_neg hqo,if_neg hqo,h.2 q];simp only[mq,hq,Nat.zero_add]
theorem dz.of {w:World} {b a c:Nat} {bs L:List ak} (h1:w.heap[b]? =some (.cells #[.map (some a),.map (some c)] 159 (0,0))) (h2:a≠b) (h3:c≠b) (h4:a≠c) (h5:dg w a bs) (h6:bs.Perm L) (h7:fz w c L):dz w b L [b,a,c]:=
 .inr ⟨a,c,bs,h1,h2,h3,h4,h5,h6,h7,rfl⟩
theorem dg.empty {w:World} {a:Nat} (h:w.heap[a]? =some (.map #[] 0)):dg w a []:=⟨#[],0,h,⟨rfl,rfl⟩,by simp,by simp⟩
theorem yL {w:World} {c ck:Nat} {es:Array MapEntry} {o n:Int} (hb:w.heap[c]? =some (.map es ck)) (h:cL es.toList):∃w',(Instr.mapUpdate 140 (.map (some c)) (.int .i64 o) (.int .i64 n)).run Tryz.prog w=.ok () w'∧w'.heap[c]? =some (.map (c9 o (.int .i64 n) ck es).1 (c9 o (.int .i64 n) ck es).2)∧Mod [c] w w'∧w'.heap.size=w.heap.size:=
 ⟨_,mM Tryz.underlying140 Tryz.underlying3 hb h o (.int .i64 n),ie hb,(Mod.refl _ w).gj (.inl (by simp)) _,by simp⟩
theorem oz {w:World} {c:Nat} {L M:List ak} {o n:Int} (h:fz w c L) (he:∀q,(aW M q).length=(if o=q then 1 else 0)+(aW L q).length) (hn:n=(aW L o).length+1):
  ∃w',(Instr.mapUpdate 140 (.map (some c)) (.int .i64 o) (.int .i64 n)).run Tryz.prog w=.ok () w'∧fz w' c M∧Mod [c] w w'∧w'.heap.size=w.heap.size:=by
 obtain⟨es,ck,hb,h⟩:=h.at;obtain⟨w',h1,h2,h3,h4⟩:=yL (o:=o) (n:=n) hb h.1;exact⟨w',h1,(h.more he ck hn).is h2,h3,h4⟩
theorem oE {w:World} {c:Nat} {L:List ak} (h:fz w c L) (o:Int):(Instr.lookup 140 (.map (some c)) (.int .i64 o) false).run Tryz.prog w=.ok (.int .i64 ((aW L o).length:Nat)) w:=by
 obtain⟨es,ck,hb,h⟩:=h.at;rw[jG Tryz.underlying140 Tryz.underlying3 Tryz.zeroValue3 hb h.1,h.get]
end Go.Proofs.YtdehaommhbjakaaGreat.Bw
