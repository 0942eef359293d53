/- Joined contracts. No conditions. -/
import Derived.Test.YtgfdeiijblakfaaGreatCS
import Derived.Test.YtgfdeiijblakfaaGreatC01
import Derived.Test.YtgfdeiijblakfaaGreatC08
import Derived.Test.YtgfdeiijblakfaaGreatC09
import Derived.Test.YtgfdeiijblakfaaGreatC12
import Derived.Test.YtgfdeiijblakfaaGreatC13
import Derived.Test.YtgfdeiijblakfaaGreatC17
import Derived.Test.YtgfdeiijblakfaaGreatC18
import Derived.Test.YtgfdeiijblakfaaGreatC19
namespace Go.Proofs.YtgfdeiijblakfaaGreat
open Go Go.RowKit Go.Stg
def encN (n:Nat):List Int:=if _h:n<128 then [(n:Int)]else((n%128+128:Nat):Int)::encN (n/128)
termination_by n
decreasing_by omega
theorem encN_last {n:Nat} (h:n<128):encN n=[(n:Int)]:=by rw[encN];simp[h]
theorem encN_more {n:Nat} (h:¬n<128):encN n=((n%128+128:Nat):Int)::encN (n/128):=by rw[encN];simp[h]
theorem encN_len:∀(k n:Nat),n<128^(k+1)→(encN n).length≤k+1
 |0,n,h=>by rw[encN_last (by simpa using h)];simp
 |k+1,n,h=>by
  by_cases hn:n<128
  ·rw[encN_last hn];simp
  ·rw[encN_more hn,List.length_cons];have:=encN_len k (n/128) (by rw[Nat.pow_succ]at h;omega);omega
theorem encN_len64 {n:Nat} (h:n<18446744073709551616):1≤(encN n).length∧(encN n).length≤10:=by
 refine⟨?_,Nat.le_trans (encN_len 9 n (by omega)) (Nat.le_refl _)⟩;rw[encN];split<;>simp
theorem encN_bytes:∀(k n:Nat),n<128^(k+1)→∀b∈encN n,0≤b∧b≤255
 |0,n,h=>by rw[encN_last (by simpa using h)];intro b hb;simp at hb h;omega
 |k+1,n,h=>by
  by_cases hn:n<128
  ·rw[encN_last hn];intro b hb;simp at hb;omega
  ·rw[encN_more hn];intro b hb;rcases List.mem_cons.1 hb with rfl|hb
   ·omega
   ·exact encN_bytes k (n/128) (by rw[Nat.pow_succ]at h;omega) b hb
theorem encN_bytes64 {n:Nat} (h:n<18446744073709551616):∀b∈encN n,0≤b∧b≤255:=encN_bytes 9 n (by omega)
structure Ev where
 p:Int
 op:Int
 h:Int
 arg:Int
 err:Int
def Ev.ok (e:Ev):Prop:=(1≤e.p∧e.p≤64)∧((1≤e.op∧e.op≤11)∨e.op=32∨e.op=33)∧(0≤e.h∧e.h≤18446744073709551615)∧(0≤e.arg∧e.arg≤18446744073709551615)∧(0≤e.err∧e.err≤29)
def Ev.counts (e:Ev):Bool:=decide (e.op≠32)&&decide (e.op≠33)
def encEv (e:Ev):List Int:=encN e.p.toNat++encN e.op.toNat++encN e.h.toNat++encN e.arg.toNat++encN e.err.toNat
theorem encEv_len {e:Ev} (h:e.ok):5≤(encEv e).length∧(encEv e).length≤50:=by
 obtain⟨h1,h2,h3,h4,h5⟩:=h;have k1:=encN_len64 (n:=e.p.toNat) (by omega);have k2:=encN_len64 (n:=e.op.toNat) (by omega);have k3:=encN_len64 (n:=e.h.toNat) (by omega);have k4:=encN_len64 (n:=e.arg.toNat) (by omega);have k5:=encN_len64 (n:=e.err.toNat) (by omega);simp only[encEv,List.length_append];omega
theorem encEv_bytes {e:Ev} (h:e.ok):∀b∈encEv e,0≤b∧b≤255:=by
 obtain⟨h1,h2,h3,h4,h5⟩:=h;intro b hb;simp only[encEv,List.mem_append]at hb;rcases hb with(((hb|hb)|hb)|hb)|hb
 ·exact encN_bytes64 (n:=e.p.toNat) (by omega) b hb
 ·exact encN_bytes64 (n:=e.op.toNat) (by omega) b hb
 ·exact encN_bytes64 (n:=e.h.toNat) (by omega) b hb
 ·exact encN_bytes64 (n:=e.arg.toNat) (by omega) b hb
 ·exact encN_bytes64 (n:=e.err.toNat) (by omega) b hb
def recs (evs:List Ev) (p:Int):Nat:=(evs.filter fun e=>decide (e.p=p)&&e.counts).length
def missN (ms:List Int) (p:Int):Nat:=(ms.filter fun q=>decide (q=p)).length
theorem recs_snoc (evs:List Ev) (e:Ev) (p:Int):recs (evs++[e]) p=recs evs p+(if e.p=p∧e.counts=true then 1 else 0):=by
 unfold recs;rw[List.filter_append,List.length_append];congr 1;by_cases h:e.p=p∧e.counts=true
 ·rw[if_pos h,List.filter_cons_of_pos (by simp[h.1,h.2])];rfl
 ·rw[if_neg h,List.filter_cons_of_neg (by simpa using h)];rfl
theorem missN_snoc (ms:List Int) (q p:Int):missN (ms++[q]) p=missN ms p+(if q=p then 1 else 0):=by
 unfold missN;rw[List.filter_append,List.length_append];congr 1;by_cases h:q=p
 ·rw[if_pos h,List.filter_cons_of_pos (by simp[h])];rfl
 ·rw[if_neg h,List.filter_cons_of_neg (by simpa using h)];rfl
end Go.Proofs.YtgfdeiijblakfaaGreat
namespace Go.Proofs.YtgfdeiijblakfaaGreat
open Go Go.RowKit Go.Stg
structure HC where
 n:Nat
 first:Int
 size:Int
 lim:Qt.Q
 cap:Int
structure HC.Ok (c:HC):Prop where
 n:c.n≤4096
 f1:1≤c.first
 f2:c.first≤4294967295
 s0:0≤c.size
 s1:c.size≤1048576
 lim:c.lim.pos
 c0:0≤c.cap
 c1:c.cap≤65536
structure HS where
 R:List Ty.Ty
 T:Tb.TS
 L:List Bw.Bor
 evs:List Ev
 miss:List Int
 mem:List (List Int)
 st:Int→Int
def extE (e:Tb.Ent):Ext:=(e.off,e.len)
def liveAt (x:Tb.TS) (j:Nat):Option Tb.Ent:=if(Tb.slotN x.g.S j).2 then some (Tb.entN x.E j)else none
theorem liveL_eq (x:Tb.TS) (k:Nat):Tb.liveL x k=(List.range k).filterMap (liveAt x):=rfl
theorem filterMap_same {α β:Type} {f g:α→Option β}:∀ {l:List α},(∀a∈l,f a=g a)→l.filterMap f=l.filterMap g
 | [],_=>rfl
 |a::l,h=>by rw[List.filterMap_cons,List.filterMap_cons,h a (by simp),filterMap_same fun x hx=>h x (List.mem_cons_of_mem _ hx)]
theorem range_split {n j:Nat} (hj:j<n):List.range n=List.range j++j::(List.range n).drop (j+1):=by
 have h:=List.take_append_drop j (List.range n);rw[List.take_range,Nat.min_eq_left (by omega),List.drop_eq_getElem_cons (by simpa using hj),List.getElem_range]at h;exact h.symm
theorem live_mem {x:Tb.TS} {n:Nat} {e:Tb.Ent}:e∈Tb.liveL x n↔∃j,j<n∧liveAt x j=some e:=by
 rw[liveL_eq,List.mem_filterMap];constructor
 ·rintro⟨j,h1,h2⟩;exact⟨j,List.mem_range.1 h1,h2⟩
 ·rintro⟨j,h1,h2⟩;exact⟨j,List.mem_range.2 h1,h2⟩
theorem liveAt_some {x:Tb.TS} {j:Nat} {e:Tb.Ent} (h:liveAt x j=some e):(Tb.slotN x.g.S j).2=true∧e=Tb.entN x.E j:=by
 unfold liveAt at h;split at h
 ·rename_i hl;exact⟨hl,(Option.some.inj h).symm⟩
 ·cases h
theorem liveAt_of {x:Tb.TS} {j:Nat} (h:(Tb.slotN x.g.S j).2=true):liveAt x j=some (Tb.entN x.E j):=by unfold liveAt;rw[if_pos h]
theorem liveAt_no {x:Tb.TS} {j:Nat} (h:(Tb.slotN x.g.S j).2=false):liveAt x j=none:=by unfold liveAt;rw[h];rfl
def sumLen (p:Int) (E:List Tb.Ent):Int:=((E.filter fun e=>decide (e.owner=p)).map (·.len)).sum
def cntOwn (p:Int) (E:List Tb.Ent):Int:=((E.filter fun e=>decide (e.owner=p)).length:Nat)
def hasOf (E:List Tb.Ent) (L:List Bw.Bor) (p:Int):Qt.Q:=⟨sumLen p E,cntOwn p E,((Bw.heldH L p).length:Nat)⟩
theorem sumLen_app (p:Int) (A C:List Tb.Ent):sumLen p (A++C)=sumLen p A+sumLen p C:=by simp[sumLen,List.filter_append]
theorem cntOwn_app (p:Int) (A C:List Tb.Ent):cntOwn p (A++C)=cntOwn p A+cntOwn p C:=by simp[cntOwn,List.filter_append]
theorem sumLen_one (p:Int) (e:Tb.Ent):sumLen p [e]=if e.owner=p then e.len else 0:=by
 unfold sumLen;by_cases h:e.owner=p<;>simp[h]
theorem cntOwn_one (p:Int) (e:Tb.Ent):cntOwn p [e]=if e.owner=p then 1 else 0:=by
 unfold cntOwn;by_cases h:e.owner=p<;>simp[h]
section
variable (c:HC) (s:HS)
def liveE:List Tb.Ent:=Tb.liveL s.T c.n
def usedH:List Ext:=(liveE c s).map extE
noncomputable def freeH:List Ext:=frOf c.size (usedH c s)
def hasH (p:Int):Qt.Q:=hasOf (liveE c s) s.L p
def setI (f:Int→Int) (p v:Int):Int→Int:=fun k=>if k=p then v else f k
def u64 (n:Int):Int:=n%18446744073709551616
def room (p:Int):Bool:=decide ((recs s.evs p:Int)<c.cap)
def logA (e:Ev):HS:=if(!e.counts||room c s e.p)=true then {s with evs:=s.evs++[e]}else {s with miss:=s.miss++[e.p]}
def act (p op h arg:Int) (r:Int×HS):Int×HS:=
 if s.st p≠1 then(15,s)else if room c s p=false then(19,{s with miss:=s.miss++[p]})else(r.1,logA c r.2 ⟨p,op,h,arg,r.1⟩)
def actQ (p op h arg:Int) (e:Int):Int×HS:=
 if s.st p≠1 then(15,s)else if e=0 then(0,s)else(e,logA c s ⟨p,op,h,arg,e⟩)
def entH (o:Int):Tb.Ent:=Tb.resN s.T o
def accD (p o a:Int):Int:=if Tb.resE s.T o=0 then Bw.accE s.L (Tb.hSlot o) p (decide ((entH s o).owner=p)) a else Tb.resE s.T o
def tyTag (tag:Int):Ty.Ty:=Ty.lookT s.R tag
def sizeTag (tag:Int):Int:=Ty.sizeT (tyTag s tag).1 (tyTag s tag).2
def tyH (o:Int):Ty.Ty:=tyTag s (entH s o).tag
def sizeH (o:Int):Int:=sizeTag s (entH s o).tag
def memH (j:Nat):List Int:=s.mem.getD j []
def bytesH (o:Int):List Int:=memH s (Tb.hSlot o).toNat
def wq (len:Int):Qt.Q:=⟨len,1,0⟩
def startD (p:Int):Int×HS:=
 if p<1∨64<p then(15,s)else if s.st p≠0 then(28,s)else(0,{s with st:=setI s.st p 1,evs:=s.evs++[⟨p,32,0,0,0⟩]})
noncomputable def allocE (p tag:Int):Int:=
 if Ty.lookE s.R tag≠0 then 20 else if Qt.fitsE c.lim (hasH c s p) (wq (roundN (sizeTag s tag)))≠0 then 16 else if s.T.g.F.length=0 then 17 else if bestP (roundN (sizeTag s tag)) (freeH c s)=none then 18 else 0
noncomputable def allocX (tag:Int):Ext:=(((bestP (roundN (sizeTag s tag)) (freeH c s)).getD (0,0)).1,roundN (sizeTag s tag))
noncomputable def allocH (p tag d:Int):Int:=if allocE c s p tag=0 then Tb.issH c.first s.T p tag d else 0
noncomputable def allocS (p tag d:Int):HS:=
 if allocE c s p tag=0 then {s with T:=Tb.issT c.first s.T p tag (allocX c s tag).1 (allocX c s tag).2 d,mem:=s.mem.set (Tb.pickS s.T.g.F d) (List.replicate (sizeTag s tag).toNat 0)}
 else s
noncomputable def opAlloc (p tag d:Int):Int×HS:=act c s p 1 (allocH c s p tag d) (u64 tag) (allocE c s p tag,allocS c s p tag d)
noncomputable def opAllocH (p tag d:Int):Int:=if(opAlloc c s p tag d).1=0 then allocH c s p tag d else 0
def cutB (l:List Int) (off n:Int):List Int:=(l.drop off.toNat).take n.toNat
def putD (o off:Int) (b:List Int):HS:={s with mem:=s.mem.set (Tb.hSlot o).toNat (overlay (bytesH s o) off.toNat b)}
def withinN (off n size:Int):Bool:=decide (0≤off)&&(decide (n≤size)&&decide (off≤size-n))
def loadE (p o off n:Int):Int:=if accD s p o 1≠0 then accD s p o 1 else if n<0 then 1 else if withinN off n (sizeH s o)=false then 7 else 0
def opLoad (p o off n:Int):Int×HS:=actQ c s p 5 o (u64 off) (loadE s p o off n)
def opLoadB (p o off n:Int):List Int:=if(opLoad c s p o off n).1=0 then cutB (bytesH s o) off n else []
def storeD (p o off:Int) (b:List Int):Int×HS:=if accD s p o 2≠0 then(accD s p o 2,s)else if withinN off b.length (sizeH s o)=false then(7,s)else(0,putD s o off b)
def opStore (p o off:Int) (b:List Int):Int×HS:=act c s p 6 o (u64 off) (storeD s p o off b)
def defS (t:Ty.Ty):HS:={s with R:=Ty.regN s.R t}
end
def newS (c:HC):HS:=⟨[],Tb.start c.n,[],[],[],List.replicate c.n [],fun _=>0⟩
structure HInv (c:HC) (k:Nat) (s:HS):Prop where
 tin:Tb.TInv c.n c.first s.T
 lin:Bw.LInv k s.L
 llen:s.L.length≤k
 rok:∀t∈s.R,Ty.TyOk t
 rlen:s.R.length≤255
 evk:s.evs.length≤k
 evok:∀e∈s.evs,e.ok
 missk:s.miss.length≤k
 uok:UsedOk c.size (usedH c s)
 ent:∀e∈liveE c s,s.st e.owner=1∧(1≤e.tag∧e.tag≤s.R.length)∧e.len=roundN (sizeTag s e.tag)
 mlen:s.mem.length=c.n
 mem:∀j,j<c.n→(Tb.slotN s.T.g.S j).2=true→(memH s j).length=sizeTag s (Tb.entN s.T.E j).tag
 memB:∀j,∀b∈memH s j,0≤b∧b≤255
 dead:∀j,(Tb.slotN s.T.g.S j).2=false→memH s j=[]
 bor:∀b∈s.L,s.st b.1.2=1∧∃j:Nat,b.1.1=j∧(Tb.slotN s.T.g.S j).2=true∧(Tb.entN s.T.E j).owner≠b.1.2
 lim:∀p,(hasH c s p).b≤c.lim.b∧(hasH c s p).o≤c.lim.o∧(hasH c s p).r≤c.lim.r
 st:∀p,s.st p=0∨((1≤p∧p≤64)∧(s.st p=1∨s.st p=2))
end Go.Proofs.YtgfdeiijblakfaaGreat
namespace Go.Proofs.YtgfdeiijblakfaaGreat
open Go Go.RowKit Go.Stg
theorem fm_split {α:Type} (f:Nat→Option α) {n j:Nat} (hj:j<n):∃A C,∀g:Nat→Option α,(∀m,m<n→m≠j→g m=f m)→(List.range n).filterMap g=A++((g j).toList++C):=by
 refine⟨(List.range j).filterMap f,((List.range n).drop (j+1)).filterMap f,fun g hg=> ?_⟩;have e:((List.range n).drop (j+1)).filterMap g=((List.range n).drop (j+1)).filterMap f:=filterMap_same fun m hm=>by
  have h1:=List.mem_of_mem_drop hm;rw[List.mem_range]at h1;refine hg m h1 fun e=> ?_
  subst e;obtain⟨i,hi,he⟩:=List.getElem_of_mem hm;rw[List.getElem_drop,List.getElem_range]at he;omega
 have e1:(List.range n).filterMap g=(List.range j++j::(List.range n).drop (j+1)).filterMap g:=congrArg _ (range_split hj);rw[e1,List.filterMap_append];congr 1
 ·exact filterMap_same fun m hm=>by rw[List.mem_range]at hm;exact hg m (by omega) (by omega)
 ·rw[List.filterMap_cons,e];cases g j<;>rfl
section
variable {n:Nat} {first:Int} {x:Tb.TS} (hI:Tb.TInv n first x)
include hI
theorem iss_slot (hf1:1≤first) (hf2:first≤4294967295) {owner tag:Int} (off len d:Int) (hk:Tb.issOk x owner tag):
  Tb.pickS x.g.F d<n∧(Tb.slotN x.g.S (Tb.pickS x.g.F d)).2=false∧(Tb.slotN (Tb.issT first x owner tag off len d).g.S (Tb.pickS x.g.F d)).2=true∧
  Tb.entN (Tb.issT first x owner tag off len d).E (Tb.pickS x.g.F d)=Tb.issEnt first x owner tag off len d∧
  ∀m,m≠Tb.pickS x.g.F d→Tb.slotN (Tb.issT first x owner tag off len d).g.S m=Tb.slotN x.g.S m∧Tb.entN (Tb.issT first x owner tag off len d).E m=Tb.entN x.E m:=by
 obtain⟨hb,hp⟩:=hk;obtain⟨hi,hj,hp',hF,hjn,hd,hg0,hg1,hsl⟩:=hI.g.pick hf1 hf2 hp d;have hjE:Tb.pickS x.g.F d<x.E.length:=by rw[hI.len];exact hjn
 unfold Tb.issT;rw[if_pos ⟨hb,hp⟩];simp only[Tb.issG_some hp];refine⟨hjn,by rw[Tb.slotN_at hj];exact hd,by rw[Tb.slotN_set hj,if_pos rfl],by rw[Tb.entN_set hjE,if_pos rfl],fun m hm=>⟨by rw[Tb.slotN_set hj,if_neg hm],by rw[Tb.entN_set hjE,if_neg hm]⟩⟩
theorem live_res {j:Nat} (hj:j<n) (hn:n≤4096) (hl:(Tb.slotN x.g.S j).2=true) (hf1:1≤first):Tb.hSlot (Tb.entN x.E j).h=j∧Tb.resE x (Tb.entN x.E j).h=0∧(0≤(Tb.entN x.E j).h∧(Tb.entN x.E j).h≤18446744073709551615):=by
 obtain⟨ht,he⟩:=hI.ok j hj hl;have hg:first≤(Tb.slotN x.g.S j).1∧(Tb.slotN x.g.S j).1≤4294967295:=by
  rcases hI.g.gens j hj with h|h
  ·rw[h]at hl;cases hl
  ·exact h
 have hs:0≤(j:Int)∧(j:Int)≤16777215:=by omega
 have hg':1≤(Tb.slotN x.g.S j).1∧(Tb.slotN x.g.S j).1≤4294967295:=by omega
 have e1:=Tb.hSlot_pack (g:=(Tb.slotN x.g.S j).1) (t:=(Tb.entN x.E j).tag) hs;have e2:=Tb.hGen_pack (t:=(Tb.entN x.E j).tag) hs hg';have e3:=Tb.hTag_pack (t:=(Tb.entN x.E j).tag) hs hg';rw[←he]at e1 e2 e3;refine⟨e1,?_,?_⟩
 ·have hlen:=hI.g.len;unfold Tb.resE;rw[e1,e2,e3,if_neg (by omega),Tb.liveN_nat,Int.toNat_natCast,if_neg (by simp[hl]),if_neg (by simp)]
 ·rw[he];unfold Tb.packI;omega
end
theorem has_ins {A C:List Tb.Ent} {e:Tb.Ent} {L:List Bw.Bor} (p:Int):hasOf (A++e::C) L p=if p=e.owner then(hasOf (A++C) L p).add ⟨e.len,1,0⟩else hasOf (A++C) L p:=by
 have e1:A++e::C=A++([e]++C):=rfl;unfold hasOf Qt.Q.add;rw[e1,sumLen_app,sumLen_app,sumLen_app,cntOwn_app,cntOwn_app,cntOwn_app,sumLen_one,cntOwn_one];by_cases h:p=e.owner
 ·rw[if_pos h,if_pos h.symm,if_pos h.symm];simp only[Qt.Q.mk.injEq];omega
 ·rw[if_neg h,if_neg (Ne.symm h),if_neg (Ne.symm h)];simp only[Qt.Q.mk.injEq];exact⟨by omega,by omega,trivial⟩
end Go.Proofs.YtgfdeiijblakfaaGreat
namespace Go.Proofs.YtgfdeiijblakfaaGreat
open Go Go.RowKit Go.Stg
def obAt (s:HS) (j:Nat):Option Ob:=(liveAt s.T j).map fun e=>(extE e,memH s j)
def obs (c:HC) (s:HS):List Ob:=(List.range c.n).filterMap (obAt s)
theorem obs_used (c:HC) (s:HS):(obs c s).map (·.1)=usedH c s:=by
 unfold obs usedH liveE;rw[liveL_eq,List.map_filterMap,List.map_filterMap];exact filterMap_same fun j _=>by unfold obAt;cases liveAt s.T j<;>rfl
theorem obs_mem {c:HC} {s:HS} {j:Nat} (hj:j<c.n) (hl:(Tb.slotN s.T.g.S j).2=true):(extE (Tb.entN s.T.E j),memH s j)∈obs c s:=by
 unfold obs;rw[List.mem_filterMap];exact⟨j,List.mem_range.2 hj,by unfold obAt;rw[liveAt_of hl];rfl⟩
theorem liveE_mem {c:HC} {s:HS} {j:Nat} (hj:j<c.n) (hl:(Tb.slotN s.T.g.S j).2=true):Tb.entN s.T.E j∈liveE c s:=live_mem.2 ⟨j,hj,liveAt_of hl⟩
theorem one_slot {c:HC} {s s':HS} {j:Nat} (hj:j<c.n) (h:∀m,m≠j→liveAt s'.T m=liveAt s.T m∧memH s' m=memH s m):
  ∃A C A' C',liveE c s=A++((liveAt s.T j).toList++C)∧liveE c s'=A++((liveAt s'.T j).toList++C)∧obs c s=A'++((obAt s j).toList++C')∧obs c s'=A'++((obAt s' j).toList++C'):=by
 obtain⟨A,C,h1⟩:=fm_split (liveAt s.T) hj;obtain⟨A',C',h2⟩:=fm_split (obAt s) hj;exact⟨A,C,A',C',h1 _ fun _ _ _=>rfl,h1 _ fun m _ hm=>(h m hm).1,h2 _ fun _ _ _=>rfl,h2 _ fun m _ hm=>by unfold obAt;rw[(h m hm).1,(h m hm).2]⟩
theorem memH_set {s:HS} {j:Nat} (hj:j<s.mem.length) {l:List Int} {T:Tb.TS} (m:Nat):memH {s with T:=T,mem:=s.mem.set j l} m=if m=j then l else memH s m:=by
 unfold memH;simp only[List.getD_eq_getElem?_getD];by_cases e:m=j
 ·subst e;simp[hj]
 ·rw[if_neg e,List.getElem?_set_ne (Ne.symm e)]
theorem sumLen_nonneg {E:List Tb.Ent} (h:∀e∈E,0≤e.len) (p:Int):0≤sumLen p E:=by
 unfold sumLen
 induction E with
 |nil=>simp
 |cons e E ih=>
  have h1:=h e (by simp);have h2:=ih fun x hx=>h x (List.mem_cons_of_mem _ hx)
  rw[List.filter_cons];split
  ·rw[List.map_cons,List.sum_cons];omega
  ·exact h2
def leQ (x l:Qt.Q):Prop:=x.b≤l.b∧x.o≤l.o∧x.r≤l.r
theorem fits_le {l x q:Qt.Q} (h:Qt.fitsE l x q=0):leQ (x.add q) l:=by
 unfold Qt.fitsE at h;split at h
 ·cases h
 ·split at h
  ·rename_i hf;simp only[Qt.fitsB,Bool.and_eq_true,decide_eq_true_eq]at hf;unfold leQ Qt.Q.add;simp only;omega
  ·cases h
section
variable {c:HC} {k:Nat} {s s':HS}
theorem HInv.pos (hc:c.Ok) (hI:HInv c k s) (p:Int):(hasH c s p).pos:=by
 have hl:=hI.lim p;have hp:=hc.lim;unfold Qt.Q.pos at*;have h1:0≤sumLen p (liveE c s):=sumLen_nonneg (fun e he=>by have:=hI.uok.len (e:=extE e) (List.mem_map_of_mem he);unfold extE at this;simp only at this;omega) p;unfold hasH hasOf at*;simp only at*;unfold cntOwn at*;omega
theorem HInv.slot (hI:HInv c k s) {j:Nat} (hj:j<c.n) (hT:Tb.TInv c.n c.first s'.T) (hR:s'.R=s.R) (hst:s'.st=s.st) (hL:s'.L=s.L) (hev:s'.evs=s.evs) (hms:s'.miss=s.miss) (hml:s'.mem.length=c.n)
  (hoth:∀m,m≠j→Tb.slotN s'.T.g.S m=Tb.slotN s.T.g.S m∧Tb.entN s'.T.E m=Tb.entN s.T.E m∧memH s' m=memH s m)
  (hu:UsedOk c.size (usedH c s'))
  (hnew:(Tb.slotN s'.T.g.S j).2=true→(s.st (Tb.entN s'.T.E j).owner=1∧(1≤(Tb.entN s'.T.E j).tag∧(Tb.entN s'.T.E j).tag≤s.R.length)∧(Tb.entN s'.T.E j).len=roundN (sizeTag s (Tb.entN s'.T.E j).tag))∧(memH s' j).length=sizeTag s (Tb.entN s'.T.E j).tag)
  (hdead:(Tb.slotN s'.T.g.S j).2=false→memH s' j=[]) (hB:∀b∈memH s' j,0≤b∧b≤255)
  (hbor:∀b∈s.L,b.1.1=j→(Tb.slotN s'.T.g.S j).2=true∧(Tb.entN s'.T.E j).owner≠b.1.2) (hlim:∀p,leQ (hasH c s' p) c.lim):HInv c k s':=by
 have hsz:∀t,sizeTag s' t=sizeTag s t:=fun t=>by unfold sizeTag tyTag;rw[hR]
 refine⟨hT,by rw[hL];exact hI.lin,by rw[hL];exact hI.llen,by rw[hR];exact hI.rok,by rw[hR];exact hI.rlen,by rw[hev];exact hI.evk,by rw[hev];exact hI.evok,by rw[hms];exact hI.missk,hu,fun e he=> ?_,hml,fun m hm hl=> ?_,fun m=> ?_,fun m hd=> ?_,fun b hb=> ?_,hlim,by rw[hst];exact hI.st⟩
 ·obtain⟨m,hm,hml⟩:=live_mem.1 he;obtain⟨hl,rfl⟩:=liveAt_some hml;rw[hst,hR,hsz];by_cases e:m=j
  ·subst e;exact(hnew hl).1
  ·obtain⟨h1,h2,h3⟩:=hoth m e;rw[h2];rw[h1]at hl;exact hI.ent _ (liveE_mem hm hl)
 ·rw[hsz];by_cases e:m=j
  ·subst e;exact(hnew hl).2
  ·obtain⟨h1,h2,h3⟩:=hoth m e;rw[h2,h3];rw[h1]at hl;exact hI.mem m hm hl
 ·by_cases e:m=j
  ·subst e;exact hB
  ·rw[(hoth m e).2.2];exact hI.memB m
 ·by_cases e:m=j
  ·subst e;exact hdead hd
  ·obtain⟨h1,_,h3⟩:=hoth m e;rw[h3];rw[h1]at hd;exact hI.dead m hd
 ·rw[hL]at hb;rw[hst];obtain⟨h1,m,h2,h3,h4⟩:=hI.bor b hb;refine⟨h1,m,h2,?_⟩;by_cases e:m=j
  ·subst e;exact hbor b hb h2
  ·obtain⟨q1,q2,_⟩:=hoth m e;rw[q1,q2];exact⟨h3,h4⟩
end
theorem size_pos {t:Ty.Ty} (h:Ty.TyOk t):1≤Ty.sizeT t.1 t.2∧Ty.sizeT t.1 t.2≤65536:=by
 obtain⟨h0,h1,h2,hg,hs,k1,k2⟩:=Ty.errT_zero h;refine⟨?_,hs⟩;unfold Ty.sizeT;by_cases c:0<t.1
 ·rw[if_pos c];have hl:=k1 c;rw[Ty.hd_eq hl];have:=(Ty.good_of (hg _ (List.getElem_mem (by omega:0<t.2.length)))).2.2.1;have:=Int.mul_pos c (show 0<Ty.wid (t.2[0]'(by omega)) by omega);omega
 ·rw[if_neg c];have hl:=k2 (by omega);obtain⟨r1,r2,r3,r4⟩:=Ty.runL_bounds t.2 hg;unfold Ty.sizeR;have:=(Ty.upI_bounds (n:=(Ty.runL t.2).1) r3).1;have e:t.2=t.2.take (t.2.length-1)++[t.2[t.2.length-1]'(by omega)]:=by
   have:=Ty.take_snoc t.2 (k:=t.2.length-1) (by omega);rw[show t.2.length-1+1=t.2.length by omega,List.take_length]at this;exact this
  have h3:=Ty.runL_take t.2 hg (t.2.length-1) (by omega);have h4:=Ty.good_of (hg _ (List.getElem_mem (by omega:t.2.length-1<t.2.length)));have e2:(Ty.runL t.2).1=Ty.upI (Ty.runL (t.2.take (t.2.length-1))).1 (Ty.ali (t.2[t.2.length-1]'(by omega)))+Ty.wid (t.2[t.2.length-1]'(by omega)):=by
   conv=>lhs;rw[e,Ty.runL_snoc]
   rfl
  have h5:=(Ty.upI_bounds (n:=(Ty.runL (t.2.take (t.2.length-1))).1) (k:=Ty.ali (t.2[t.2.length-1]'(by omega))) (by omega)).1;omega
theorem HInv.ty {c:HC} {k:Nat} {s:HS} (_:c.Ok) (hI:HInv c k s) (tag:Int) (h:Ty.lookE s.R tag=0):(1≤tag∧tag≤s.R.length)∧Ty.TyOk (tyTag s tag):=by
 unfold Ty.lookE at h;split at h
 ·rename_i hr;refine⟨hr,hI.rok _ ?_⟩;unfold tyTag Ty.lookT;rw[if_pos hr,List.getD_eq_getElem?_getD,List.getElem?_eq_getElem (by omega)];exact List.getElem_mem _
 ·cases h
section
variable {c:HC} {k:Nat} {s:HS} (hc:c.Ok) (hI:HInv c k s)
include hc hI
theorem HInv.tagIn {tag:Int} (h:1≤tag∧tag≤s.R.length):Ty.TyOk (tyTag s tag):=(HInv.ty hc hI tag (by unfold Ty.lookE;rw[if_pos h])).2
end
end Go.Proofs.YtgfdeiijblakfaaGreat
