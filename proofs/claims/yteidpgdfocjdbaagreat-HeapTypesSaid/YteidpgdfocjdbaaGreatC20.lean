/- Joined contracts. No conditions. -/
import Derived.Test.YteidpgdfocjdbaaGreatCS
import Derived.Test.YteidpgdfocjdbaaGreatC13
import Derived.Test.YteidpgdfocjdbaaGreatC16
import Derived.Test.YteidpgdfocjdbaaGreatC17
import Derived.Test.YteidpgdfocjdbaaGreatC19
namespace Go.Proofs.YteidpgdfocjdbaaGreat
open Go Go.RowKit Go.Stg
def obAt (s:HS) (j:Nat):Option Ob:=(liveAt s.T j).map fun e=>(extE e,memH s j)
def obs (c:HC) (s:HS):List Ob:=(List.range c.n).filterMap (obAt s)
theorem obs_used (c:HC) (s:HS):(obs c s).map (·.1)=usedH c s:=by
 unfold obs usedH liveE;rw[liveL_eq,List.map_filterMap,List.map_filterMap];exact filterMap_same fun j _=>by unfold obAt;cases liveAt s.T j<;>rfl
theorem obs_mem {c:HC} {s:HS} {j:Nat} (hj:j<c.n) (hl:(Tb.slotN s.T.g.S j).2=true):(extE (Tb.entN s.T.E j),memH s j)∈obs c s:=by
 unfold obs;rw[List.mem_filterMap];exact⟨j,List.mem_range.2 hj,by unfold obAt;rw[liveAt_of hl];rfl⟩
theorem liveE_mem {c:HC} {s:HS} {j:Nat} (hj:j<c.n) (hl:(Tb.slotN s.T.g.S j).2=true):Tb.entN s.T.E j∈liveE c s:=live_mem.2 ⟨j,hj,liveAt_of hl⟩
theorem one_slot {c:HC} {s s':HS} {j:Nat} (hj:j<c.n) (h:∀m,m≠j→liveAt s'.T m=liveAt s.T m∧memH s' m=memH s m):
  ∃A C A' C',liveE c s=A++((liveAt s.T j).toList++C)∧liveE c s'=A++((liveAt s'.T j).toList++C)∧obs c s=A'++((obAt s j).toList++C')∧obs c s'=A'++((obAt s' j).toList++C'):=by
 obtain⟨A,C,h1⟩:=fm_split (liveAt s.T) hj;obtain⟨A',C',h2⟩:=fm_split (obAt s) hj;exact⟨A,C,A',C',h1 _ fun _ _ _=>rfl,h1 _ fun m _ hm=>(h m hm).1,h2 _ fun _ _ _=>rfl,h2 _ fun m _ hm=>by unfold obAt;rw[(h m hm).1,(h m hm).2]⟩
theorem memH_set {s:HS} {j:Nat} (hj:j<s.mem.length) {l:List Int} {T:Tb.TS} (m:Nat):memH {s with T:=T,mem:=s.mem.set j l} m=if m=j then l else memH s m:=by
 unfold memH;simp only[List.getD_eq_getElem?_getD];by_cases e:m=j
 ·subst e;simp[hj]
 ·rw[if_neg e,List.getElem?_set_ne (Ne.symm e)]
theorem sumLen_nonneg {E:List Tb.Ent} (h:∀e∈E,0≤e.len) (p:Int):0≤sumLen p E:=by
 unfold sumLen
 induction E with
 |nil=>simp
 |cons e E ih=>
  have h1:=h e (by simp);have h2:=ih fun x hx=>h x (List.mem_cons_of_mem _ hx)
  rw[List.filter_cons];split
  ·rw[List.map_cons,List.sum_cons];omega
  ·exact h2
def leQ (x l:Qt.Q):Prop:=x.b≤l.b∧x.o≤l.o∧x.r≤l.r
theorem fits_le {l x q:Qt.Q} (h:Qt.fitsE l x q=0):leQ (x.add q) l:=by
 unfold Qt.fitsE at h;split at h
 ·cases h
 ·split at h
  ·rename_i hf;simp only[Qt.fitsB,Bool.and_eq_true,decide_eq_true_eq]at hf;unfold leQ Qt.Q.add;simp only;omega
  ·cases h
section
variable {c:HC} {k:Nat} {s s':HS}
theorem HInv.pos (hc:c.Ok) (hI:HInv c k s) (p:Int):(hasH c s p).pos:=by
 have hl:=hI.lim p;have hp:=hc.lim;unfold Qt.Q.pos at*;have h1:0≤sumLen p (liveE c s):=sumLen_nonneg (fun e he=>by have:=hI.uok.len (e:=extE e) (List.mem_map_of_mem he);unfold extE at this;simp only at this;omega) p;unfold hasH hasOf at*;simp only at*;unfold cntOwn at*;omega
theorem HInv.slot (hI:HInv c k s) {j:Nat} (hj:j<c.n) (hT:Tb.TInv c.n c.first s'.T) (hR:s'.R=s.R) (hst:s'.st=s.st) (hL:s'.L=s.L) (hev:s'.evs=s.evs) (hms:s'.miss=s.miss) (hml:s'.mem.length=c.n)
  (hoth:∀m,m≠j→Tb.slotN s'.T.g.S m=Tb.slotN s.T.g.S m∧Tb.entN s'.T.E m=Tb.entN s.T.E m∧memH s' m=memH s m)
  (hu:UsedOk c.size (usedH c s'))
  (hnew:(Tb.slotN s'.T.g.S j).2=true→(s.st (Tb.entN s'.T.E j).owner=1∧(1≤(Tb.entN s'.T.E j).tag∧(Tb.entN s'.T.E j).tag≤s.R.length)∧(Tb.entN s'.T.E j).len=roundN (sizeTag s (Tb.entN s'.T.E j).tag))∧(memH s' j).length=sizeTag s (Tb.entN s'.T.E j).tag)
  (hdead:(Tb.slotN s'.T.g.S j).2=false→memH s' j=[]) (hB:∀b∈memH s' j,0≤b∧b≤255)
  (hbor:∀b∈s.L,b.1.1=j→(Tb.slotN s'.T.g.S j).2=true∧(Tb.entN s'.T.E j).owner≠b.1.2) (hlim:∀p,leQ (hasH c s' p) c.lim):HInv c k s':=by
 have hsz:∀t,sizeTag s' t=sizeTag s t:=fun t=>by unfold sizeTag tyTag;rw[hR]
 refine⟨hT,by rw[hL];exact hI.lin,by rw[hL];exact hI.llen,by rw[hR];exact hI.rok,by rw[hR];exact hI.rlen,by rw[hev];exact hI.evk,by rw[hev];exact hI.evok,by rw[hms];exact hI.missk,hu,fun e he=> ?_,hml,fun m hm hl=> ?_,fun m=> ?_,fun m hd=> ?_,fun b hb=> ?_,hlim,by rw[hst];exact hI.st⟩
 ·obtain⟨m,hm,hml⟩:=live_mem.1 he;obtain⟨hl,rfl⟩:=liveAt_some hml;rw[hst,hR,hsz];by_cases e:m=j
  ·subst e;exact(hnew hl).1
  ·obtain⟨h1,h2,h3⟩:=hoth m e;rw[h2];rw[h1]at hl;exact hI.ent _ (liveE_mem hm hl)
 ·rw[hsz];by_cases e:m=j
  ·subst e;exact(hnew hl).2
  ·obtain⟨h1,h2,h3⟩:=hoth m e;rw[h2,h3];rw[h1]at hl;exact hI.mem m hm hl
 ·by_cases e:m=j
  ·subst e;exact hB
  ·rw[(hoth m e).2.2];exact hI.memB m
 ·by_cases e:m=j
  ·subst e;exact hdead hd
  ·obtain⟨h1,_,h3⟩:=hoth m e;rw[h3];rw[h1]at hd;exact hI.dead m hd
 ·rw[hL]at hb;rw[hst];obtain⟨h1,m,h2,h3,h4⟩:=hI.bor b hb;refine⟨h1,m,h2,?_⟩;by_cases e:m=j
  ·subst e;exact hbor b hb h2
  ·obtain⟨q1,q2,_⟩:=hoth m e;rw[q1,q2];exact⟨h3,h4⟩
end
theorem size_pos {t:Ty.Ty} (h:Ty.TyOk t):1≤Ty.sizeT t.1 t.2∧Ty.sizeT t.1 t.2≤65536:=by
 obtain⟨h0,h1,h2,hg,hs,k1,k2⟩:=Ty.errT_zero h;refine⟨?_,hs⟩;unfold Ty.sizeT;by_cases c:0<t.1
 ·rw[if_pos c];have hl:=k1 c;rw[Ty.hd_eq hl];have:=(Ty.good_of (hg _ (List.getElem_mem (by omega:0<t.2.length)))).2.2.1;have:=Int.mul_pos c (show 0<Ty.wid (t.2[0]'(by omega)) by omega);omega
 ·rw[if_neg c];have hl:=k2 (by omega);obtain⟨r1,r2,r3,r4⟩:=Ty.runL_bounds t.2 hg;unfold Ty.sizeR;have:=(Ty.upI_bounds (n:=(Ty.runL t.2).1) r3).1;have e:t.2=t.2.take (t.2.length-1)++[t.2[t.2.length-1]'(by omega)]:=by
   have:=Ty.take_snoc t.2 (k:=t.2.length-1) (by omega);rw[show t.2.length-1+1=t.2.length by omega,List.take_length]at this;exact this
  have h3:=Ty.runL_take t.2 hg (t.2.length-1) (by omega);have h4:=Ty.good_of (hg _ (List.getElem_mem (by omega:t.2.length-1<t.2.length)));have e2:(Ty.runL t.2).1=Ty.upI (Ty.runL (t.2.take (t.2.length-1))).1 (Ty.ali (t.2[t.2.length-1]'(by omega)))+Ty.wid (t.2[t.2.length-1]'(by omega)):=by
   conv=>lhs;rw[e,Ty.runL_snoc]
   rfl
  have h5:=(Ty.upI_bounds (n:=(Ty.runL (t.2.take (t.2.length-1))).1) (k:=Ty.ali (t.2[t.2.length-1]'(by omega))) (by omega)).1;omega
theorem HInv.ty {c:HC} {k:Nat} {s:HS} (_:c.Ok) (hI:HInv c k s) (tag:Int) (h:Ty.lookE s.R tag=0):(1≤tag∧tag≤s.R.length)∧Ty.TyOk (tyTag s tag):=by
 unfold Ty.lookE at h;split at h
 ·rename_i hr;refine⟨hr,hI.rok _ ?_⟩;unfold tyTag Ty.lookT;rw[if_pos hr,List.getD_eq_getElem?_getD,List.getElem?_eq_getElem (by omega)];exact List.getElem_mem _
 ·cases h
section
variable {c:HC} {k:Nat} {s:HS} (hc:c.Ok) (hI:HInv c k s)
include hc hI
theorem HInv.tagIn {tag:Int} (h:1≤tag∧tag≤s.R.length):Ty.TyOk (tyTag s tag):=(HInv.ty hc hI tag (by unfold Ty.lookE;rw[if_pos h])).2
end
end Go.Proofs.YteidpgdfocjdbaaGreat
namespace Go.Proofs.YteidpgdfocjdbaaGreat
open Go Go.RowKit Go.Stg
theorem mid_perm {α:Type} (A C:List α) (x:α):(A++C++[x]).Perm (A++x::C):=by
 rw[List.append_assoc];exact(List.perm_append_comm (l₁:=C) (l₂:=[x])).append_left A
section
variable {c:HC} {k:Nat} {s:HS}
theorem entH_eq {o:Int} (h:Tb.resE s.T o=0) {j:Nat} (hj:Tb.hSlot o=j):entH s o=Tb.entN s.T.E j:=by
 unfold entH Tb.resN;rw[if_pos h,hj,Int.toNat_natCast]
theorem res_live (hI:HInv c k s) {o:Int} (h:Tb.resE s.T o=0):∃j:Nat,Tb.hSlot o=j∧j<c.n∧(Tb.slotN s.T.g.S j).2=true∧entH s o=Tb.entN s.T.E j∧(Tb.entN s.T.E j).h=o:=by
 obtain⟨j,hj,hjl,hlv,hg,ht⟩:=Tb.resE_zero h;have hl:=hI.tin.g.len;have hn:j<c.n:=by omega
 refine⟨j,hj,hn,hlv,entH_eq h hj,?_⟩;rw[(hI.tin.ok j hn hlv).2,hg,ht, ←hj];exact Tb.pack_parts o
theorem acc_res {p o acc:Int} (h:accD s p o acc=0):Tb.resE s.T o=0:=by
 unfold accD at h;by_cases c:Tb.resE s.T o=0
 ·exact c
 ·rw[if_neg c]at h;exact absurd h c
theorem slot_same {s':HS} {m:Nat} (h1:Tb.slotN s'.T.g.S m=Tb.slotN s.T.g.S m) (h2:Tb.entN s'.T.E m=Tb.entN s.T.E m):liveAt s'.T m=liveAt s.T m:=by
 unfold liveAt;rw[h1,h2]
theorem obAt_of {s:HS} {j:Nat} (h:(Tb.slotN s.T.g.S j).2=true):obAt s j=some (extE (Tb.entN s.T.E j),memH s j):=by unfold obAt;rw[liveAt_of h];rfl
theorem obAt_no {s:HS} {j:Nat} (h:(Tb.slotN s.T.g.S j).2=false):obAt s j=none:=by unfold obAt;rw[liveAt_no h];rfl
theorem inv_put (hI:HInv c k s) {o:Int} (h:Tb.resE s.T o=0) {j:Nat} (hj:Tb.hSlot o=j) {off:Int} (h0:0≤off) {b:List Int} (hfit:off+b.length≤(memH s j).length) (hb:∀x∈b,0≤x∧x≤255):
  HInv c k (putD s o off b)∧(∃A C,obs c s=A++(extE (Tb.entN s.T.E j),memH s j)::C∧obs c (putD s o off b)=A++(extE (Tb.entN s.T.E j),overlay (memH s j) off.toNat b)::C)∧hasH c (putD s o off b)=hasH c s∧usedH c (putD s o off b)=usedH c s:=by
 obtain⟨j',hj',hjn,hlv,_,_⟩:=res_live hI h;obtain rfl:j=j':=by omega
 have hml:=hI.mlen;have hby:bytesH s o=memH s j:=by unfold bytesH;rw[hj,Int.toNat_natCast]
 have hmem:∀m,memH (putD s o off b) m=if m=j then overlay (memH s j) off.toNat b else memH s m:=fun m=>by
  unfold putD;rw[hj,Int.toNat_natCast,hby];exact memH_set (T:=s.T) (by omega) m
 have hT:(putD s o off b).T=s.T:=rfl;have hus:usedH c (putD s o off b)=usedH c s:=rfl;have hhs:hasH c (putD s o off b)=hasH c s:=rfl;obtain⟨_,_,A',C',_,_,q3,q4⟩:=one_slot (s:=s) (s':=putD s o off b) hjn fun m hm=>⟨rfl,by rw[hmem,if_neg hm]⟩
 rw[obAt_of hlv]at q3;rw[obAt_of (s:=putD s o off b) hlv,hmem,if_pos rfl]at q4;have hlen:=overlay_len (l:=memH s j) (b:=b) (off:=off.toNat) (by omega);refine⟨HInv.slot hI hjn hI.tin rfl rfl rfl rfl rfl (by unfold putD;rw[List.length_set];exact hml) (fun m hm=>⟨rfl,rfl,by rw[hmem,if_neg hm]⟩) (by rw[hus];exact hI.uok) (fun hl=>⟨hI.ent _ (liveE_mem hjn hlv),?_⟩) (fun hd=> ?_) ?_ (fun b' hb' e=> ?_) (fun q=>by rw[hhs];exact hI.lim q),⟨A',C',q3,q4⟩,hhs,hus⟩
 ·rw[hmem,if_pos rfl,hlen];exact hI.mem j hjn hlv
 ·exact absurd (hlv.symm.trans hd) (by simp)
 ·rw[hmem,if_pos rfl];exact overlay_mem (hI.memB j) hb
 ·obtain⟨_,m,e2,h2,h3⟩:=hI.bor b' hb';obtain rfl:m=j:=by omega
  exact⟨h2,h3⟩
theorem alloc_zero {p tag:Int} (h:allocE c s p tag=0):Ty.lookE s.R tag=0∧Qt.fitsE c.lim (hasH c s p) (wq (roundN (sizeTag s tag)))=0∧0<s.T.g.F.length∧∃b,bestP (roundN (sizeTag s tag)) (freeH c s)=some b:=by
 unfold allocE at h;split at h
 ·cases h
 ·rename_i h1;split at h
  ·cases h
  ·rename_i h2;split at h
   ·cases h
   ·rename_i h3;split at h
    ·cases h
    ·rename_i h4;refine⟨Classical.byContradiction h1,Classical.byContradiction h2,by omega,?_⟩
     cases hb:bestP (roundN (sizeTag s tag)) (freeH c s)with
     |none=>exact absurd hb h4
     |some b=>exact⟨b,rfl⟩
structure Came (c:HC) (k:Nat) (s s':HS) (x:Ob) (p:Int):Prop where
 inv:HInv c k s'
 obs:∃A C,obs c s=A++C∧obs c s'=A++x::C
 has:∀q,hasH c s' q=if q=p then(hasH c s q).add (wq x.1.2)else hasH c s q
theorem inv_alloc (hc:c.Ok) (hI:HInv c k s) {p tag d:Int} (hp:s.st p=1) (h:allocE c s p tag=0):Tb.issOk s.T p tag∧Came c k s (allocS c s p tag d) (allocX c s tag,List.replicate (sizeTag s tag).toNat 0) p:=by
 obtain⟨ht,hf,hF,b,hb⟩:=alloc_zero h;obtain⟨htr,hty⟩:=HInv.ty hc hI tag ht;have hps:1≤p∧p≤64:=by
  rcases hI.st p with h'|⟨h',_⟩
  ·rw[h']at hp;cases hp
  ·exact h'
 have hsz:1≤sizeTag s tag∧sizeTag s tag≤65536:=size_pos hty;obtain⟨r1,r2,r3,r4⟩:=round_spec hsz.1 hsz.2;have hok:Tb.issOk s.T p tag:=⟨by have:=hI.rlen;unfold Tb.badOT;omega,hF⟩;refine⟨hok,?_⟩;obtain⟨hjn,hd,hl,he,hoth⟩:=iss_slot hI.tin hc.f1 hc.f2 (allocX c s tag).1 (allocX c s tag).2 d hok;generalize hj:Tb.pickS s.T.g.F d=j at*;have hS:allocS c s p tag d={s with T:=Tb.issT c.first s.T p tag (allocX c s tag).1 (allocX c s tag).2 d,mem:=s.mem.set j (List.replicate (sizeTag s tag).toNat 0)}:=by unfold allocS;rw[if_pos h,hj]
 have hml:=hI.mlen;rw[hS];have hmem:=fun m=>memH_set (s:=s) (j:=j) (by omega) (l:=List.replicate (sizeTag s tag).toNat 0) (T:=Tb.issT c.first s.T p tag (allocX c s tag).1 (allocX c s tag).2 d) m
 generalize hs':({s with T:=Tb.issT c.first s.T p tag (allocX c s tag).1 (allocX c s tag).2 d,mem:=s.mem.set j (List.replicate (sizeTag s tag).toNat 0)}:HS)=s' at*;have hT:s'.T=Tb.issT c.first s.T p tag (allocX c s tag).1 (allocX c s tag).2 d:=by rw[←hs']
 have hL:s'.L=s.L:=by rw[←hs']
 have hx2:(allocX c s tag).2=roundN (sizeTag s tag):=rfl;have hx1:(allocX c s tag).1=b.1:=by unfold allocX;rw[hb];rfl
 have hent:Tb.entN s'.T.E j=Tb.issEnt c.first s.T p tag (allocX c s tag).1 (allocX c s tag).2 d:=by rw[hT];exact he
 have hlj:(Tb.slotN s'.T.g.S j).2=true:=by rw[hT];exact hl
 have ho:∀m,m≠j→Tb.slotN s'.T.g.S m=Tb.slotN s.T.g.S m∧Tb.entN s'.T.E m=Tb.entN s.T.E m:=fun m hm=>by rw[hT];exact hoth m hm
 obtain⟨A,C,A',C',q1,q2,q3,q4⟩:=one_slot (s:=s) (s':=s') hjn fun m hm=>⟨slot_same (ho m hm).1 (ho m hm).2,by rw[hmem,if_neg hm]⟩
 rw[liveAt_no hd]at q1;rw[liveAt_of hlj,hent]at q2;rw[obAt_no hd]at q3;rw[obAt_of hlj,hent,hmem,if_pos rfl]at q4;have hhas:∀q,hasH c s' q=if q=p then(hasH c s q).add (wq (allocX c s tag).2)else hasH c s q:=fun q=>by
  unfold hasH;rw[q1,q2,hL];exact has_ins (e:=Tb.issEnt c.first s.T p tag (allocX c s tag).1 (allocX c s tag).2 d) q
 have hpx:proper (allocX c s tag)∧b∈freeH c s∧(allocX c s tag).1+(allocX c s tag).2≤b.1+b.2:=by
  obtain⟨m1,m2⟩:=best_some hb;have:=(hI.uok.free hc.s1).vs.1 b m1;unfold proper at*;refine⟨?_,m1,?_⟩
  ·rw[hx1,hx2];omega
  ·rw[hx1,hx2];omega
 obtain⟨D,G,hDG⟩:=List.append_of_mem hpx.2.1;have hfree:=hI.uok.free hc.s1;have hfree':FreeOf c.size (usedH c s) (D++b::G):=by rw[←hDG];exact hfree
 obtain⟨_,hu⟩:=hfree'.alloc hI.uok hpx.1 (by rw[hx1];omega) hpx.2.2;have hus:UsedOk c.size (usedH c s'):=by
  refine hu.perm ?_;rw[←obs_used, ←obs_used,q3,q4];simp only[Option.toList,List.cons_append,List.nil_append,List.map_append,List.map_cons];exact mid_perm _ _ _
 refine⟨HInv.slot hI hjn (by rw[hT];exact hI.tin.issue hc.f1 hc.f2 p tag _ _ d) (by rw[←hs']) (by rw[←hs']) hL (by rw[←hs']) (by rw[←hs']) (by rw[←hs'];simp only[List.length_set];exact hml) (fun m hm=>⟨(ho m hm).1,(ho m hm).2,by rw[hmem,if_neg hm]⟩) hus (fun _=> ?_) (fun hdd=> ?_) ?_ (fun b' hb' e=> ?_) (fun q=> ?_),⟨A',C',q3,?_⟩,hhas⟩
 ·rw[hent,hmem,if_pos rfl];refine⟨⟨hp,htr,rfl⟩,?_⟩;simp only[List.length_replicate,Tb.issEnt];omega
 ·exact absurd (hlj.symm.trans hdd) (by simp)
 ·rw[hmem,if_pos rfl];intro x hx;rw[List.eq_of_mem_replicate hx];omega
 ·obtain⟨_,m,e2,h2,_⟩:=hI.bor b' hb';obtain rfl:m=j:=by omega
  rw[hd]at h2;cases h2
 ·rw[hhas q];by_cases e:q=p
  ·rw[if_pos e,e,hx2];exact fits_le hf
  ·rw[if_neg e];exact hI.lim q
 ·exact q4
end
end Go.Proofs.YteidpgdfocjdbaaGreat
namespace Go.Proofs.YteidpgdfocjdbaaGreat
open Go Go.RowKit Go.Stg
section
variable {c:HC} {k:Nat} {s:HS}
theorem held_put_new {L:List Bw.Bor} {b:Bw.Bor} (hg:Bw.getB L b.1=none) (q:Int):(Bw.heldH (Bw.putB L b) q).length=(if b.1.2=q then 1 else 0)+(Bw.heldH L q).length:=by
 have hp:=(Bw.put_perm L b).filter fun x=>decide (x.1.2=q)
 rw[Bw.without_none hg]at hp;unfold Bw.heldH;rw[hp.length_eq,List.filter_cons];by_cases h:b.1.2=q
 ·simp[h];omega
 ·simp[h]
theorem held_without {L:List Bw.Bor} (hn:(L.map (·.1)).Nodup) {kk:Int×Int} {b:Bw.Bor} (hg:Bw.getB L kk=some b) (q:Int):(Bw.heldH L q).length=(if kk.2=q then 1 else 0)+(Bw.heldH (Bw.without L kk) q).length:=by
 have hp:=(Bw.getB_perm hn hg).filter fun x=>decide (x.1.2=q)
 have hk:=(Bw.getB_some hg).2;unfold Bw.heldH;rw[hp.length_eq,List.filter_cons,hk];by_cases h:kk.2=q
 ·simp[h];omega
 ·simp[h]
theorem held_put_old {L:List Bw.Bor} (hn:(L.map (·.1)).Nodup) {x b:Bw.Bor} (hg:Bw.getB L b.1=some x) (q:Int):(Bw.heldH (Bw.putB L b) q).length=(Bw.heldH L q).length:=by
 have hp:=(Bw.put_perm L b).filter fun x=>decide (x.1.2=q)
 have h2:=held_without hn hg q;unfold Bw.heldH at*;rw[hp.length_eq,List.filter_cons,h2];by_cases h:b.1.2=q
 ·simp[h];omega
 ·simp[h]
theorem HInv.led (hI:HInv c k s) {L':List Bw.Bor} {k':Nat} (hkk:k≤k') (h1:Bw.LInv k' L') (h2:L'.length≤k') (hb:∀b∈L',s.st b.1.2=1∧∃j:Nat,b.1.1=j∧(Tb.slotN s.T.g.S j).2=true∧(Tb.entN s.T.E j).owner≠b.1.2) (hl:∀p,leQ (hasH c {s with L:=L'} p) c.lim):HInv c k' {s with L:=L'}:=
 ⟨hI.tin,h1,h2,hI.rok,hI.rlen,Nat.le_trans hI.evk hkk,hI.evok,Nat.le_trans hI.missk hkk,hI.uok,hI.ent,hI.mlen,hI.mem,hI.memB,hI.dead,hb,hl,hI.st⟩
theorem HInv.up (hI:HInv c k s) {k':Nat} (h:k≤k'):HInv c k' s:=by
 have:=hI.led (L':=s.L) h (hI.lin.up (by omega)) (Nat.le_trans hI.llen h) hI.bor hI.lim;exact this
theorem hasH_led (L':List Bw.Bor) (p:Int):hasH c {s with L:=L'} p=⟨(hasH c s p).b,(hasH c s p).o,((Bw.heldH L' p).length:Nat)⟩:=rfl
theorem hasH_r (p:Int):(hasH c s p).r=((Bw.heldH s.L p).length:Nat):=rfl
theorem Q_eta (x:Qt.Q):(⟨x.b,x.o,x.r⟩:Qt.Q)=x:=rfl
theorem inv_lend (hI:HInv c k s) {o q m:Int} {j:Nat} (hj:Tb.hSlot o=j) (hlv:(Tb.slotN s.T.g.S j).2=true) (hq:s.st q=1) (hne:q≠(Tb.entN s.T.E j).owner) (hf:(Bw.getB s.L (Tb.hSlot o,q)).isSome=false→Qt.fitsE c.lim (hasH c s q) bq=0) (he:Bw.lendE s.L (Tb.hSlot o) m=0):
  HInv c (k+1) {s with L:=Bw.lendL s.L (Tb.hSlot o) q m}∧∀p,hasH c {s with L:=Bw.lendL s.L (Tb.hSlot o) q m} p=if p=q∧(Bw.getB s.L (Tb.hSlot o,q)).isSome=false then(hasH c s p).add bq else hasH c s p:=by
 have hhas:∀p,hasH c {s with L:=Bw.lendL s.L (Tb.hSlot o) q m} p=if p=q∧(Bw.getB s.L (Tb.hSlot o,q)).isSome=false then(hasH c s p).add bq else hasH c s p:=fun p=>by
  rw[hasH_led];unfold Bw.lendL;rw[if_pos he]
  cases hg:Bw.getB s.L (Tb.hSlot o,q)with
  |none=>
   rw[held_put_new (b:=((Tb.hSlot o,q),(m,Bw.cntOf s.L (Tb.hSlot o,q)+1))) hg];simp only[Option.isSome_none,and_true];by_cases e:p=q
   ·rw[if_pos e,if_pos e.symm];unfold Qt.Q.add bq;simp only[hasH_r,Qt.Q.mk.injEq];omega
   ·rw[if_neg e,if_neg (Ne.symm e),Nat.zero_add, ←hasH_r (c:=c),Q_eta]
  |some b=>
   rw[held_put_old (b:=((Tb.hSlot o,q),(m,Bw.cntOf s.L (Tb.hSlot o,q)+1))) hI.lin.srt.nodup hg];simp only[Option.isSome_some,Bool.true_eq_false,and_false,if_false];rw[←hasH_r (c:=c),Q_eta]
 refine⟨hI.led (by omega) (Bw.lend_inv hI.lin (by omega) _ _ _) (Nat.le_trans (Bw.lend_len _ _ _ _) (by have:=hI.llen;omega)) (fun b hb=> ?_) (fun p=> ?_),hhas⟩
 ·unfold Bw.lendL at hb;rw[if_pos he]at hb;rcases Bw.put_mem.1 hb with rfl|⟨hb,_⟩
  ·exact⟨hq,j,hj,hlv,Ne.symm hne⟩
  ·exact hI.bor b hb
 ·rw[hhas p];split
  ·rename_i h;rw[h.1];exact fits_le (hf h.2)
  ·exact hI.lim p
theorem inv_release (hI:HInv c k s) {o p:Int} {b:Bw.Bor} (hg:Bw.getB s.L (Tb.hSlot o,p)=some b):
  HInv c k {s with L:=Bw.relL s.L (Tb.hSlot o,p)}∧∀q,hasH c {s with L:=Bw.relL s.L (Tb.hSlot o,p)} q=if q=p∧(Bw.getB (Bw.relL s.L (Tb.hSlot o,p)) (Tb.hSlot o,p)).isSome=false then(hasH c s q).sub bq else hasH c s q:=by
 have hn:=hI.lin.srt.nodup;have hr:Bw.relL s.L (Tb.hSlot o,p)=if b.2.2=1 then Bw.without s.L (Tb.hSlot o,p)else Bw.putB s.L ((Tb.hSlot o,p),(b.2.1,b.2.2-1)):=by unfold Bw.relL;rw[hg]
 have hhas:∀q,hasH c {s with L:=Bw.relL s.L (Tb.hSlot o,p)} q=if q=p∧(Bw.getB (Bw.relL s.L (Tb.hSlot o,p)) (Tb.hSlot o,p)).isSome=false then(hasH c s q).sub bq else hasH c s q:=fun q=>by
  rw[hasH_led,hr];by_cases e1:b.2.2=1
  ·rw[if_pos e1];have hw:=held_without hn hg q;have hgn:Bw.getB (Bw.without s.L (Tb.hSlot o,p)) (Tb.hSlot o,p)=none:=by
    unfold Bw.getB;rw[List.find?_eq_none];intro x hx;simpa using(Bw.without_mem.1 hx).2
   rw[hgn];simp only[Option.isSome_none,and_true]at hw⊢;by_cases e:q=p
   ·rw[if_pos e.symm]at hw;rw[if_pos e];unfold Qt.Q.sub bq;simp only[hasH_r,Qt.Q.mk.injEq];omega
   ·rw[if_neg (Ne.symm e),Nat.zero_add]at hw;rw[if_neg e, ←hw, ←hasH_r (c:=c),Q_eta]
  ·rw[if_neg e1];have hw:=held_put_old (b:=((Tb.hSlot o,p),(b.2.1,b.2.2-1))) hn hg q;have hgs:Bw.getB (Bw.putB s.L ((Tb.hSlot o,p),(b.2.1,b.2.2-1))) (Tb.hSlot o,p)=some ((Tb.hSlot o,p),(b.2.1,b.2.2-1)):=
    Bw.getB_of (b:=((Tb.hSlot o,p),(b.2.1,b.2.2-1))) (Bw.put_srt hI.lin.srt _).nodup (Bw.put_mem.2 (.inl rfl))
   rw[hw,hgs];simp only[Option.isSome_some,Bool.true_eq_false,and_false,if_false];rw[←hasH_r (c:=c),Q_eta]
 refine⟨hI.led (Nat.le_refl _) (Bw.rel_inv hI.lin _) (Nat.le_trans (Bw.rel_len hn _) hI.llen) (fun x hx=> ?_) (fun q=> ?_),hhas⟩
 ·rw[hr]at hx;split at hx
  ·exact hI.bor x (Bw.without_mem.1 hx).1
  ·rcases Bw.put_mem.1 hx with rfl|⟨hx,_⟩
   ·have hb:=Bw.getB_some hg;have:=hI.bor b hb.1;rw[hb.2]at this;exact this
   ·exact hI.bor x hx
 ·rw[hhas q];have:=hI.lim q;split
  ·unfold leQ Qt.Q.sub bq;simp only;omega
  ·exact this
theorem inv_ev (hI:HInv c k s) {e:Ev} (he:e.ok):HInv c (k+1) {s with evs:=s.evs++[e]}:=by
 have h:=hI.up (Nat.le_succ k);exact⟨h.tin,h.lin,h.llen,h.rok,h.rlen,by simp;exact hI.evk,fun x hx=>by
  rcases List.mem_append.1 hx with hx|hx
  ·exact hI.evok x hx
  ·rw[List.mem_singleton.1 hx];exact he,h.missk,h.uok,h.ent,h.mlen,h.mem,h.memB,h.dead,h.bor,h.lim,h.st⟩
theorem inv_miss (hI:HInv c k s) (p:Int):HInv c (k+1) {s with miss:=s.miss++[p]}:=by
 have h:=hI.up (Nat.le_succ k);exact⟨h.tin,h.lin,h.llen,h.rok,h.rlen,h.evk,h.evok,by simp;exact hI.missk,h.uok,h.ent,h.mlen,h.mem,h.memB,h.dead,h.bor,h.lim,h.st⟩
theorem inv_log (hI:HInv c k s) {e:Ev} (he:e.ok):HInv c (k+1) (logA c s e):=by
 unfold logA;split
 ·exact inv_ev hI he
 ·exact inv_miss hI e.p
end
end Go.Proofs.YteidpgdfocjdbaaGreat
namespace Go.Proofs.YteidpgdfocjdbaaGreat.Bw
open Go Go.RowKit Go.Stg
def CntAt (es:Array MapEntry) (L:List Bor):Prop:=IKeys es.toList∧∀o,mget o es.toList=if ofO L o=[]then none else some (.int .i64 ((ofO L o).length:Nat))
theorem CntAt.is {w:World} {c ck:Nat} {es:Array MapEntry} {L:List Bor} (h:CntAt es L) (hb:w.heap[c]? =some (.map es ck)):CntIs w c L:=⟨es,ck,hb,h.1,h.2⟩
theorem CntIs.at {w:World} {c:Nat} {L:List Bor} (h:CntIs w c L):∃es ck,w.heap[c]? =some (.map es ck)∧CntAt es L:=let ⟨es,ck,h1,h2,h3⟩:=h;⟨es,ck,h1,h2,h3⟩
theorem nil_len {α:Type} (l:List α):l=[]↔l.length=0:=by cases l<;>simp
theorem CntAt.same {es:Array MapEntry} {L M:List Bor} (h:CntAt es L) (he:∀o,(ofO M o).length=(ofO L o).length):CntAt es M:=by
 refine⟨h.1,fun o=> ?_⟩;rw[h.2 o,he o];simp only[nil_len,he o]
theorem CntIs.same {w:World} {c:Nat} {L M:List Bor} (h:CntIs w c L) (he:∀o,(ofO M o).length=(ofO L o).length):CntIs w c M:=by
 obtain⟨es,ck,h1,h2⟩:=h.at;exact(h2.same he).is h1
theorem CntAt.nil:CntAt #[] []:=⟨trivial,fun _=>rfl⟩
theorem CntAt.get {es:Array MapEntry} {L:List Bor} (h:CntAt es L) (o:Int):(mget o es.toList).getD (.int .i64 0)=.int .i64 ((ofO L o).length:Nat):=by
 rw[h.2 o];split
 ·rename_i h;rw[h];rfl
 ·rfl
theorem CntAt.more {es:Array MapEntry} {L M:List Bor} (h:CntAt es L) {o:Int} (he:∀q,(ofO M q).length=(if o=q then 1 else 0)+(ofO L q).length) (ck:Nat) {n:Int} (hn:n=(ofO L o).length+1):CntAt (mput o (.int .i64 n) ck es).1 M:=by
 obtain⟨h1,h2⟩:=mput_spec o (.int .i64 n) ck es h.1;refine⟨h1,fun q=> ?_⟩;rw[h2 q];have hq:=he q;by_cases hqo:q=o
 ·subst hqo;rw[if_pos rfl]at hq⊢;rw[if_neg (by rw[nil_len];omega)];rw[show n=((ofO M q).length:Int)from by omega]
 ·rw[if_neg (fun e=>hqo e.symm)]at hq;rw[if_neg hqo,h.2 q];simp only[nil_len,hq,Nat.zero_add]
theorem CntAt.less {es:Array MapEntry} {L M:List Bor} (h:CntAt es L) {o:Int} (he:∀q,(ofO L q).length=(if o=q then 1 else 0)+(ofO M q).length) (ck:Nat) {n:Int} (hn:n=(ofO L o).length-1) (h0:n≠0):CntAt (mput o (.int .i64 n) ck es).1 M:=by
 obtain⟨h1,h2⟩:=mput_spec o (.int .i64 n) ck es h.1;refine⟨h1,fun q=> ?_⟩;rw[h2 q];have hq:=he q;by_cases hqo:q=o
 ·subst hqo;rw[if_pos rfl]at hq⊢;rw[if_neg (by rw[nil_len];omega)];rw[show n=((ofO M q).length:Int)from by omega]
 ·rw[if_neg (fun e=>hqo e.symm)]at hq;rw[if_neg hqo,h.2 q];simp only[nil_len,hq,Nat.zero_add]
theorem CntAt.last {es:Array MapEntry} {L M:List Bor} (h:CntAt es L) {o:Int} (he:∀q,(ofO L q).length=(if o=q then 1 else 0)+(ofO M q).length) (ck:Nat) (v:Value) (hn:(ofO L o).length=1):CntAt (mdel o (mput o v ck es).1) M:=by
 obtain⟨h1,h2⟩:=mput_spec o v ck es h.1;obtain⟨k1,k2⟩:=mdel_spec o _ h1;refine⟨k1,fun q=> ?_⟩;rw[k2 q,h2 q];have hq:=he q;by_cases hqo:q=o
 ·subst hqo;rw[if_pos rfl]at hq⊢;rw[if_pos (by rw[nil_len];omega)]
 ·rw[if_neg (fun e=>hqo e.symm)]at hq;rw[if_neg hqo,if_neg hqo,h.2 q];simp only[nil_len,hq,Nat.zero_add]
theorem LedAt.of {w:World} {b a c:Nat} {bs L:List Bor} (h1:w.heap[b]? =some (.cells #[.map (some a),.map (some c)] 139 (0,0))) (h2:a≠b) (h3:c≠b) (h4:a≠c) (h5:MapIs w a bs) (h6:bs.Perm L) (h7:CntIs w c L):LedAt w b L [b,a,c]:=
 .inr ⟨a,c,bs,h1,h2,h3,h4,h5,h6,h7,rfl⟩
theorem MapIs.empty {w:World} {a:Nat} (h:w.heap[a]? =some (.map #[] 0)):MapIs w a []:=⟨#[],0,h,⟨rfl,rfl⟩,by simp,by simp⟩
theorem upd_any {w:World} {c ck:Nat} {es:Array MapEntry} {o n:Int} (hb:w.heap[c]? =some (.map es ck)) (h:IKeys es.toList):∃w',(Instr.mapUpdate 137 (.map (some c)) (.int .i64 o) (.int .i64 n)).run Tryz.prog w=.ok () w'∧w'.heap[c]? =some (.map (mput o (.int .i64 n) ck es).1 (mput o (.int .i64 n) ck es).2)∧Mod [c] w w'∧w'.heap.size=w.heap.size:=
 ⟨_,run_update_int Tryz.underlying137 Tryz.underlying3 hb h o (.int .i64 n),at_setMap hb,(Mod.refl _ w).setMap (.inl (by simp)) _,by simp⟩
theorem upd_more {w:World} {c:Nat} {L M:List Bor} {o n:Int} (h:CntIs w c L) (he:∀q,(ofO M q).length=(if o=q then 1 else 0)+(ofO L q).length) (hn:n=(ofO L o).length+1):
  ∃w',(Instr.mapUpdate 137 (.map (some c)) (.int .i64 o) (.int .i64 n)).run Tryz.prog w=.ok () w'∧CntIs w' c M∧Mod [c] w w'∧w'.heap.size=w.heap.size:=by
 obtain⟨es,ck,hb,h⟩:=h.at;obtain⟨w',h1,h2,h3,h4⟩:=upd_any (o:=o) (n:=n) hb h.1;exact⟨w',h1,(h.more he ck hn).is h2,h3,h4⟩
theorem look_cnt {w:World} {c:Nat} {L:List Bor} (h:CntIs w c L) (o:Int):(Instr.lookup 137 (.map (some c)) (.int .i64 o) false).run Tryz.prog w=.ok (.int .i64 ((ofO L o).length:Nat)) w:=by
 obtain⟨es,ck,hb,h⟩:=h.at;rw[run_lookup_int Tryz.underlying137 Tryz.underlying3 Tryz.zeroValue3 hb h.1,h.get]
end Go.Proofs.YteidpgdfocjdbaaGreat.Bw
