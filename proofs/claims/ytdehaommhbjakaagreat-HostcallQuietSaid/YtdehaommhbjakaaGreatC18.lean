/- Joined contracts. No conditions. -/
import Derived.Test.YtdehaommhbjakaaGreatC16
import Derived.Test.YtdehaommhbjakaaGreatC17
namespace Go.Proofs.YtdehaommhbjakaaGreat
open RowKit Stg
def jL (s:Int):Int:=if s<128 then 16 else if s<2048 then s else 2048
def wM (s:Int):Nat→List Int
 |0=>[]
 |k+1=>s::wM (s+jL s) k
def oQ:List Int:=wM 16 43
theorem wE:oQ.length=43:=by decide
def bX (k:Nat):Int:=oQ.getD k 0
theorem uR:∀k:Fin 43,16≤bX k∧bX k≤65536∧bX k%16=0∧(k.1+1<43→bX (k.1+1)=bX k+jL (bX k)):=by decide
theorem qp {k:Nat} (hk:k<43):16≤bX k∧bX k≤65536∧bX k%16=0:=let h:=uR ⟨k,hk⟩;⟨h.1,h.2.1,h.2.2.1⟩
theorem vP {k:Nat} (hk:k+1<43):bX (k+1)=bX k+jL (bX k):=(uR ⟨k,by omega⟩).2.2.2 hk
theorem vV:bX 42=65536:=by decide
theorem uD {k:Nat} (hk:k<43):16≤jL (bX k)∧jL (bX k)≤2048:=by
 have:=qp hk;unfold jL;split
 ·omega
 ·split<;>omega
theorem xz:∀ {i j:Nat},i<j→j<43→bX i<bX j
 |i,0,h,_=>by omega
 |i,j+1,h,hj=>by
  have h1:=vP hj;have h2:=uD (k:=j) (by omega);by_cases hij:i=j
  ·subst hij;omega
  ·have:=xz (i:=i) (j:=j) (by omega) (by omega);omega
def ke (n:Int):Nat:=(oQ.filter fun s=>decide (s<n)).length
theorem vj {n:Int} (_h0:1≤n) (hn:n≤65536):ke n<43∧n≤bX (ke n)∧∀k,k<ke n→bX k<n:=by
 have key:∀(m s:Nat),m+s=43→∀l:List Int,(∀i,i<m→l[i]? =some (bX (s+i)))→l.length=m→(∀k,k<s→bX k<n)→
   s+(l.filter fun x=>decide (x<n)).length<43∧n≤bX (s+(l.filter fun x=>decide (x<n)).length)∧∀k,k<s+(l.filter fun x=>decide (x<n)).length→bX k<n:=by
  intro m;induction m with
  |zero=>
   intro s hs l _ _ hk;exfalso;have:=hk 42 (by omega);rw[vV]at this;omega
  |succ m ih=>
   intro s hs l hl hlen hk;match l,hl,hlen with
   |x::l,hl,hlen=>
    have hx:x=bX s:=by have:=hl 0 (by omega);simpa using this
    by_cases hlt:bX s<n
    ·have:=ih (s+1) (by omega) l (fun i hi=>by have:=hl (i+1) (by omega);simp at this;rw[this];congr 2;omega) (by simpa using hlen) (fun k hk'=>by
      by_cases hks:k=s
      ·subst hks;exact hlt
      ·exact hk k (by omega))
     rw[List.filter_cons_of_pos (by rw[hx];simpa using hlt),List.length_cons];rw[show s+((l.filter fun x=>decide (x<n)).length+1)=s+1+(l.filter fun x=>decide (x<n)).length by omega];exact this
    ·have hnil:l.filter (fun x=>decide (x<n))=[]:=by
      rw[List.filter_eq_nil_iff];intro y hy;obtain⟨i,hi⟩:=List.mem_iff_getElem?.1 hy;have hi':i<m:=by have:=(List.getElem?_eq_some_iff.1 hi).1;simp at hlen;omega
      have:=hl (i+1) (by omega);simp[hi]at this;have hlt2:=xz (i:=s) (j:=s+(i+1)) (by omega) (by omega);simp;omega
     rw[List.filter_cons_of_neg (by rw[hx];simpa using hlt),hnil];simp;exact⟨by omega,by omega,hk⟩
 have:=key 43 0 rfl oQ (fun i hi=>by
  unfold bX;have:i<oQ.length:=by rw[wE];exact hi
  simp[List.getD_eq_getElem?_getD,List.getElem?_eq_getElem this]) wE (by omega)
 simpa[ke]using this
def gn (n:Int):Int:=if n<1 then 1 else if 65536<n then 4 else 0
def cB (n:Int):Int:=if n<1 then 0 else if 65536<n then 0 else bX (ke n)
theorem nU {n:Int} (h0:1≤n) (hn:n≤65536):gn n=0∧n≤cB n∧16≤cB n∧cB n≤65536:=by
 have h:=vj h0 hn;have h2:=qp h.1;unfold gn cB;rw[if_neg (by omega),if_neg (by omega),if_neg (by omega),if_neg (by omega)];exact⟨rfl,h.2.1,h2.1,h2.2.1⟩
theorem Ef {n:Int} {k:Nat} (hk:k<43) (hn:n≤bX k) (hlow:∀j,j<k→bX j<n) (h0:1≤n):cB n=bX k∧gn n=0∧ke n=k:=by
 have h2:=qp hk;have h:=vj h0 (by omega);have:ke n=k:=by
  rcases Nat.lt_trichotomy (ke n) k with hlt|he|hgt
  ·have:=hlow _ hlt;omega
  ·exact he
  ·have:=h.2.2 k hgt;omega
 unfold gn cB;rw[if_neg (by omega),if_neg (by omega),if_neg (by omega),if_neg (by omega),this];exact⟨rfl,rfl,rfl⟩
end Go.Proofs.YtdehaommhbjakaaGreat
namespace Go.Proofs.YtdehaommhbjakaaGreat
open RowKit Stg
def c6 (n:Nat):List Int:=if _h:n<128 then [(n:Int)]else((n%128+128:Nat):Int)::c6 (n/128)
termination_by n
decreasing_by omega
theorem nY {n:Nat} (h:n<128):c6 n=[(n:Int)]:=by rw[c6];simp[h]
theorem sd {n:Nat} (h:¬n<128):c6 n=((n%128+128:Nat):Int)::c6 (n/128):=by rw[c6];simp[h]
theorem xK:∀(k n:Nat),n<128^(k+1)→(c6 n).length≤k+1
 |0,n,h=>by rw[nY (by simpa using h)];simp
 |k+1,n,h=>by
  by_cases hn:n<128
  ·rw[nY hn];simp
  ·rw[sd hn,List.length_cons];have:=xK k (n/128) (by rw[Nat.pow_succ]at h;omega);omega
theorem l8 {n:Nat} (h:n<18446744073709551616):1≤(c6 n).length∧(c6 n).length≤10:=by
 refine⟨?_,Nat.le_trans (xK 9 n (by omega)) (Nat.le_refl _)⟩;rw[c6];split<;>simp
theorem vh:∀(k n:Nat),n<128^(k+1)→∀b∈c6 n,0≤b∧b≤255
 |0,n,h=>by rw[nY (by simpa using h)];intro b hb;simp at hb h;omega
 |k+1,n,h=>by
  by_cases hn:n<128
  ·rw[nY hn];intro b hb;simp at hb;omega
  ·rw[sd hn];intro b hb;rcases List.mem_cons.1 hb with rfl|hb
   ·omega
   ·exact vh k (n/128) (by rw[Nat.pow_succ]at h;omega) b hb
theorem mN {n:Nat} (h:n<18446744073709551616):∀b∈c6 n,0≤b∧b≤255:=vh 9 n (by omega)
structure Ev where
 p:Int
 op:Int
 h:Int
 arg:Int
 err:Int
def Ev.ok (e:Ev):Prop:=(1≤e.p∧e.p≤64)∧((1≤e.op∧e.op≤11)∨e.op=32∨e.op=33)∧(0≤e.h∧e.h≤18446744073709551615)∧(0≤e.arg∧e.arg≤18446744073709551615)∧(0≤e.err∧e.err≤29)
def Ev.counts (e:Ev):Bool:=decide (e.op≠32)&&decide (e.op≠33)
def iM (e:Ev):List Int:=c6 e.p.toNat++c6 e.op.toNat++c6 e.h.toNat++c6 e.arg.toNat++c6 e.err.toNat
theorem vK {e:Ev} (h:e.ok):5≤(iM e).length∧(iM e).length≤50:=by
 obtain⟨h1,h2,h3,h4,h5⟩:=h;have k1:=l8 (n:=e.p.toNat) (by omega);have k2:=l8 (n:=e.op.toNat) (by omega);have k3:=l8 (n:=e.h.toNat) (by omega);have k4:=l8 (n:=e.arg.toNat) (by omega);have k5:=l8 (n:=e.err.toNat) (by omega);simp only[iM,List.length_append];omega
theorem uO {e:Ev} (h:e.ok):∀b∈iM e,0≤b∧b≤255:=by
 obtain⟨h1,h2,h3,h4,h5⟩:=h;intro b hb;simp only[iM,List.mem_append]at hb;rcases hb with(((hb|hb)|hb)|hb)|hb
 ·exact mN (n:=e.p.toNat) (by omega) b hb
 ·exact mN (n:=e.op.toNat) (by omega) b hb
 ·exact mN (n:=e.h.toNat) (by omega) b hb
 ·exact mN (n:=e.arg.toNat) (by omega) b hb
 ·exact mN (n:=e.err.toNat) (by omega) b hb
def b5 (evs:List Ev) (p:Int):Nat:=(evs.filter fun e=>decide (e.p=p)&&e.counts).length
def gO (ms:List Int) (p:Int):Nat:=(ms.filter fun q=>decide (q=p)).length
theorem wS (evs:List Ev) (e:Ev) (p:Int):b5 (evs++[e]) p=b5 evs p+(if e.p=p∧e.counts=true then 1 else 0):=by
 unfold b5;rw[List.filter_append,List.length_append];congr 1;by_cases h:e.p=p∧e.counts=true
 ·rw[if_pos h,List.filter_cons_of_pos (by simp[h.1,h.2])];rfl
 ·rw[if_neg h,List.filter_cons_of_neg (by simpa using h)];rfl
theorem BE (ms:List Int) (q p:Int):gO (ms++[q]) p=gO ms p+(if q=p then 1 else 0):=by
 unfold gO;rw[List.filter_append,List.length_append];congr 1;by_cases h:q=p
 ·rw[if_pos h,List.filter_cons_of_pos (by simp[h])];rfl
 ·rw[if_neg h,List.filter_cons_of_neg (by simpa using h)];rfl
end Go.Proofs.YtdehaommhbjakaaGreat
namespace Go.Proofs.YtdehaommhbjakaaGreat
open RowKit Stg
structure HC where
 n:Nat
 first:Int
 size:Int
 lim:Qt.Q
 cap:Int
structure HC.Ok (c:HC):Prop where
 n:c.n≤4096
 f1:1≤c.first
 f2:c.first≤4294967295
 s0:0≤c.size
 s1:c.size≤1048576
 lim:c.lim.pos
 c0:0≤c.cap
 c1:c.cap≤65536
structure HS where
 R:List Ty.Ty
 T:Tb.TS
 L:List Bw.ak
 evs:List Ev
 miss:List Int
 mem:List (List Int)
 st:Int→Int
def dD (e:Tb.bP):Ext:=(e.off,e.len)
def eS (x:Tb.TS) (j:Nat):Option Tb.bP:=if(Tb.aC x.g.S j).2 then some (Tb.aD x.E j)else none
theorem sK (x:Tb.TS) (k:Nat):Tb.qI x k=(List.range k).filterMap (eS x):=rfl
theorem pj {α β:Type} {f g:α→Option β}:∀ {l:List α},(∀a∈l,f a=g a)→l.filterMap f=l.filterMap g
 | [],_=>rfl
 |a::l,h=>by rw[List.filterMap_cons,List.filterMap_cons,h a (by simp),pj fun x hx=>h x (List.mem_cons_of_mem _ hx)]
theorem range_split {n j:Nat} (hj:j<n):List.range n=List.range j++j::(List.range n).drop (j+1):=by
 have h:=List.take_append_drop j (List.range n);rw[List.take_range,Nat.min_eq_left (by omega),List.drop_eq_getElem_cons (by simpa using hj),List.getElem_range]at h;exact h.symm
theorem xS {x:Tb.TS} {n:Nat} {e:Tb.bP}:e∈Tb.qI x n↔∃j,j<n∧eS x j=some e:=by
 rw[sK,List.mem_filterMap];constructor
 ·rintro⟨j,h1,h2⟩;exact⟨j,List.mem_range.1 h1,h2⟩
 ·rintro⟨j,h1,h2⟩;exact⟨j,List.mem_range.2 h1,h2⟩
theorem An {x:Tb.TS} {j:Nat} {e:Tb.bP} (h:eS x j=some e):(Tb.aC x.g.S j).2=true∧e=Tb.aD x.E j:=by
 unfold eS at h;split at h
 ·rename_i hl;exact⟨hl,(Option.some.inj h).symm⟩
 ·cases h
theorem mc {x:Tb.TS} {j:Nat} (h:(Tb.aC x.g.S j).2=true):eS x j=some (Tb.aD x.E j):=by unfold eS;rw[if_pos h]
theorem ss {x:Tb.TS} {j:Nat} (h:(Tb.aC x.g.S j).2=false):eS x j=none:=by unfold eS;rw[h];rfl
def j7 (p:Int) (E:List Tb.bP):Int:=((E.filter fun e=>decide (e.owner=p)).map (·.len)).sum
def lG (p:Int) (E:List Tb.bP):Int:=((E.filter fun e=>decide (e.owner=p)).length:Nat)
def lI (E:List Tb.bP) (L:List Bw.ak) (p:Int):Qt.Q:=⟨j7 p E,lG p E,((Bw.jt L p).length:Nat)⟩
theorem rR (p:Int) (A C:List Tb.bP):j7 p (A++C)=j7 p A+j7 p C:=by simp[j7,List.filter_append]
theorem rT (p:Int) (A C:List Tb.bP):lG p (A++C)=lG p A+lG p C:=by simp[lG,List.filter_append]
theorem BA (p:Int) (e:Tb.bP):j7 p [e]=if e.owner=p then e.len else 0:=by
 unfold j7;by_cases h:e.owner=p<;>simp[h]
theorem Bd (p:Int) (e:Tb.bP):lG p [e]=if e.owner=p then 1 else 0:=by
 unfold lG;by_cases h:e.owner=p<;>simp[h]
section
variable (c:HC) (s:HS)
def iq:List Tb.bP:=Tb.qI s.T c.n
def bA:List Ext:=(iq c s).map dD
noncomputable def im:List Ext:=bK c.size (bA c s)
def aF (p:Int):Qt.Q:=lI (iq c s) s.L p
def eJ (f:Int→Int) (p v:Int):Int→Int:=fun k=>if k=p then v else f k
def u64 (n:Int):Int:=n%18446744073709551616
def room (p:Int):Bool:=decide ((b5 s.evs p:Int)<c.cap)
def eK (e:Ev):HS:=if(!e.counts||room c s e.p)=true then {s with evs:=s.evs++[e]}else {s with miss:=s.miss++[e.p]}
def act (p op h arg:Int) (r:Int×HS):Int×HS:=
 if s.st p≠1 then(15,s)else if room c s p=false then(19,{s with miss:=s.miss++[p]})else(r.1,eK c r.2 ⟨p,op,h,arg,r.1⟩)
def gB (p op h arg:Int) (e:Int):Int×HS:=
 if s.st p≠1 then(15,s)else if e=0 then(0,s)else(e,eK c s ⟨p,op,h,arg,e⟩)
def a8 (o:Int):Tb.bP:=Tb.mJ s.T o
def aV (p o a:Int):Int:=if Tb.bF s.T o=0 then Bw.kZ s.L (Tb.aJ o) p (decide ((a8 s o).owner=p)) a else Tb.bF s.T o
def ja (tag:Int):Ty.Ty:=Ty.aN s.R tag
def bI (tag:Int):Int:=Ty.cC (ja s tag).1 (ja s tag).2
def bG (o:Int):Ty.Ty:=ja s (a8 s o).tag
def fQ (o:Int):Int:=bI s (a8 s o).tag
def bH (j:Nat):List Int:=s.mem.getD j []
def dY (o:Int):List Int:=bH s (Tb.aJ o).toNat
def iJ (p q:Int):Int:=if q=p∨s.st q≠1 then 15 else 0
def wq (len:Int):Qt.Q:=⟨len,1,0⟩
def bq:Qt.Q:=⟨0,0,1⟩
def il (o:Int):HS:={s with T:=Tb.gP s.T o,mem:=s.mem.set (Tb.aJ o).toNat []}
def fw (p:Int):Int×HS:=
 if p<1∨64<p then(15,s)else if s.st p≠0 then(28,s)else(0,{s with st:=eJ s.st p 1,evs:=s.evs++[⟨p,32,0,0,0⟩]})
noncomputable def cS (p tag:Int):Int:=
 if Ty.ee s.R tag≠0 then 20 else if Qt.cj c.lim (aF c s p) (wq (cB (bI s tag)))≠0 then 16 else if s.T.g.F.length=0 then 17 else if cT (cB (bI s tag)) (im c s)=none then 18 else 0
noncomputable def bJ (tag:Int):Ext:=(((cT (cB (bI s tag)) (im c s)).getD (0,0)).1,cB (bI s tag))
noncomputable def fM (p tag d:Int):Int:=if cS c s p tag=0 then Tb.ju c.first s.T p tag d else 0
noncomputable def df (p tag d:Int):HS:=
 if cS c s p tag=0 then {s with T:=Tb.dp c.first s.T p tag (bJ c s tag).1 (bJ c s tag).2 d,mem:=s.mem.set (Tb.bT s.T.g.F d) (List.replicate (bI s tag).toNat 0)}
 else s
noncomputable def gd (p tag d:Int):Int×HS:=act c s p 1 (fM c s p tag d) (u64 tag) (cS c s p tag,df c s p tag d)
noncomputable def iU (p tag d:Int):Int:=if(gd c s p tag d).1=0 then fM c s p tag d else 0
def jr (p o:Int):Int×HS:=if aV s p o 3≠0 then(aV s p o 3,s)else(0,il s o)
def mx (p o:Int):Int×HS:=act c s p 2 o 0 (jr s p o)
def eF (t:Ty.Ty) (i:Int):Int×Int×Int:=
 if 0<t.1 then(i*Ty.wid (Ty.hd t.2),Ty.wid (Ty.hd t.2),(Ty.hd t.2).1)
 else(Ty.dj (Ty.bu (t.2.take i.toNat)).1 (Ty.cu (t.2.getD i.toNat (0,0))),Ty.wid (t.2.getD i.toNat (0,0)),(t.2.getD i.toNat (0,0)).1)
def dt (p o a i:Int):Int:=if aV s p o a≠0 then aV s p o a else if Ty.eH (bG s o).1 (bG s o).2 i≠0 then Ty.eH (bG s o).1 (bG s o).2 i else if(eF (bG s o) i).2.2=6 then 8 else 0
def gR (l:List Int) (off n:Int):List Int:=(l.drop off.toNat).take n.toNat
def tR (o i:Int):Int:=ch (gR (dY s o) (eF (bG s o) i).1 (eF (bG s o) i).2.1)
def jR (p o i:Int):Int×HS:=gB c s p 3 o (u64 i) (dt s p o 1 i)
def kP (p o i:Int):Int:=if(jR c s p o i).1=0 then tR s o i else 0
def dw (o off:Int) (b:List Int):HS:={s with mem:=s.mem.set (Tb.aJ o).toNat (ca (dY s o) off.toNat b)}
def zB (v w:Int):Bool:=decide (8≤w)||decide (v<256^w.toNat)
def iN (p o i v:Int):Int×HS:=
 if dt s p o 2 i≠0 then(dt s p o 2 i,s)else if zB v (eF (bG s o) i).2.1=false then(9,s)else(0,dw s o (eF (bG s o) i).1 (aX v (eF (bG s o) i).2.1.toNat))
def mH (p o i v:Int):Int×HS:=act c s p 4 o (u64 i) (iN s p o i v)
def cY (off n size:Int):Bool:=decide (0≤off)&&(decide (n≤size)&&decide (off≤size-n))
def fx (p o off n:Int):Int:=if aV s p o 1≠0 then aV s p o 1 else if n<0 then 1 else if cY off n (fQ s o)=false then 7 else 0
def fK (p o off n:Int):Int×HS:=gB c s p 5 o (u64 off) (fx s p o off n)
def fJ (p o off n:Int):List Int:=if(fK c s p o off n).1=0 then gR (dY s o) off n else []
def dX (p o off:Int) (b:List Int):Int×HS:=if aV s p o 2≠0 then(aV s p o 2,s)else if cY off b.length (fQ s o)=false then(7,s)else(0,dw s o off b)
def fZ (p o off:Int) (b:List Int):Int×HS:=act c s p 6 o (u64 off) (dX s p o off b)
def eb (p dst to' src fr n:Int):Int×HS:=
 if aV s p dst 2≠0 then(aV s p dst 2,s)else if aV s p src 1≠0 then(aV s p src 1,s)else if n<0 then(1,s)else if(cY to' n (fQ s dst)&&cY fr n (fQ s src))=false then(7,s)else(0,dw s dst to' (gR (dY s src) fr n))
def mz (p dst to' src fr n:Int):Int×HS:=act c s p 7 dst src (eb s p dst to' src fr n)
def fH (p o q:Int):Int×HS:=
 if aV s p o 3≠0 then(aV s p o 3,s)else if iJ s p q≠0 then(15,s)else if Qt.cj c.lim (aF c s q) (wq (a8 s o).len)≠0 then(16,s)
 else(0,{s with T:=Tb.dR s.T o q})
def l6 (p o q:Int):Int×HS:=act c s p 8 o (u64 q) (fH c s p o q)
def dB (p o q a m:Int):Int×HS:=
 if aV s p o a≠0 then(aV s p o a,s)else if iJ s p q≠0 then(15,s)
 else if(Bw.aK s.L (Tb.aJ o,q)).isSome=false∧Qt.cj c.lim (aF c s q) bq≠0 then(16,s)
 else(Bw.gq s.L (Tb.aJ o) m,{s with L:=Bw.ei s.L (Tb.aJ o) q m})
def mn (p o q:Int):Int×HS:=act c s p 9 o (u64 q) (dB c s p o q 4 1)
def mw (p o q:Int):Int×HS:=act c s p 10 o (u64 q) (dB c s p o q 3 2)
def gK (p o:Int):Int×HS:=
 if Tb.bF s.T o≠0 then(Tb.bF s.T o,s)else if Bw.mI s.L (Tb.aJ o,p)≠0 then(13,s)
 else(0,{s with L:=Bw.dH s.L (Tb.aJ o,p)})
def ma (p o:Int):Int×HS:=act c s p 11 o 0 (gK s p o)
def iO (t:Ty.Ty):HS:={s with R:=Ty.da s.R t}
end
def bL (c:HC):HS:=⟨[],Tb.start c.n,[],[],[],List.replicate c.n [],fun _=>0⟩
structure az (c:HC) (k:Nat) (s:HS):Prop where
 ew:Tb.eX c.n c.first s.T
 e9:Bw.dF k s.L
 jS:s.L.length≤k
 kA:∀t∈s.R,Ty.du t
 lQ:s.R.length≤255
 kz:s.evs.length≤k
 nJ:∀e∈s.evs,e.ok
 lM:s.miss.length≤k
 eA:cJ c.size (bA c s)
 cG:∀e∈iq c s,s.st e.owner=1∧(1≤e.tag∧e.tag≤s.R.length)∧e.len=cB (bI s e.tag)
 k9:s.mem.length=c.n
 mem:∀j,j<c.n→(Tb.aC s.T.g.S j).2=true→(bH s j).length=bI s (Tb.aD s.T.E j).tag
 ko:∀j,∀b∈bH s j,0≤b∧b≤255
 dead:∀j,(Tb.aC s.T.g.S j).2=false→bH s j=[]
 jE:∀b∈s.L,s.st b.1.2=1∧∃j:Nat,b.1.1=j∧(Tb.aC s.T.g.S j).2=true∧(Tb.aD s.T.E j).owner≠b.1.2
 lim:∀p,(aF c s p).b≤c.lim.b∧(aF c s p).o≤c.lim.o∧(aF c s p).r≤c.lim.r
 st:∀p,s.st p=0∨((1≤p∧p≤64)∧(s.st p=1∨s.st p=2))
end Go.Proofs.YtdehaommhbjakaaGreat
namespace Go.Proofs.YtdehaommhbjakaaGreat
open RowKit Stg
theorem xL {α:Type} (f:Nat→Option α) {n j:Nat} (hj:j<n):∃A C,∀g:Nat→Option α,(∀m,m<n→m≠j→g m=f m)→(List.range n).filterMap g=A++((g j).toList++C):=by
 refine⟨(List.range j).filterMap f,((List.range n).drop (j+1)).filterMap f,fun g hg=> ?_⟩;have e:((List.range n).drop (j+1)).filterMap g=((List.range n).drop (j+1)).filterMap f:=pj fun m hm=>by
  have h1:=List.mem_of_mem_drop hm;rw[List.mem_range]at h1;refine hg m h1 fun e=> ?_
  subst e;obtain⟨i,hi,he⟩:=List.getElem_of_mem hm;rw[List.getElem_drop,List.getElem_range]at he;omega
 have e1:(List.range n).filterMap g=(List.range j++j::(List.range n).drop (j+1)).filterMap g:=congrArg _ (range_split hj);rw[e1,List.filterMap_append];congr 1
 ·exact pj fun m hm=>by rw[List.mem_range]at hm;exact hg m (by omega) (by omega)
 ·rw[List.filterMap_cons,e];cases g j<;>rfl
section
variable {n:Nat} {first:Int} {x:Tb.TS} (hI:Tb.eX n first x)
include hI
theorem x7 (hf1:1≤first) (hf2:first≤4294967295) {owner tag:Int} (off len d:Int) (hk:Tb.jo x owner tag):
  Tb.bT x.g.F d<n∧(Tb.aC x.g.S (Tb.bT x.g.F d)).2=false∧(Tb.aC (Tb.dp first x owner tag off len d).g.S (Tb.bT x.g.F d)).2=true∧
  Tb.aD (Tb.dp first x owner tag off len d).E (Tb.bT x.g.F d)=Tb.j9 first x owner tag off len d∧
  ∀m,m≠Tb.bT x.g.F d→Tb.aC (Tb.dp first x owner tag off len d).g.S m=Tb.aC x.g.S m∧Tb.aD (Tb.dp first x owner tag off len d).E m=Tb.aD x.E m:=by
 obtain⟨hb,hp⟩:=hk;obtain⟨hi,hj,hp',hF,hjn,hd,hg0,hg1,hsl⟩:=hI.g.pick hf1 hf2 hp d;have hjE:Tb.bT x.g.F d<x.E.length:=by rw[hI.len];exact hjn
 unfold Tb.dp;rw[if_pos ⟨hb,hp⟩];simp only[Tb.sD hp];refine⟨hjn,by rw[Tb.j1 hj];exact hd,by rw[Tb.ib hj,if_pos rfl],by rw[Tb.jM hjE,if_pos rfl],fun m hm=>⟨by rw[Tb.ib hj,if_neg hm],by rw[Tb.jM hjE,if_neg hm]⟩⟩
theorem CU {h:Int} (h0:Tb.bF x h=0) {j:Nat} (hj:Tb.aJ h=j):
  j<n∧(Tb.aC x.g.S j).2=true∧(Tb.aC (Tb.gP x h).g.S j).2=false∧(Tb.gP x h).E=x.E∧∀m,m≠j→Tb.aC (Tb.gP x h).g.S m=Tb.aC x.g.S m:=by
 obtain⟨j',hj',hjl,hlv,_,_⟩:=Tb.kH h0;obtain rfl:j=j':=by omega
 have hn:j<n:=by have:=hI.g.len;omega
 unfold Tb.gP;rw[if_pos h0,hj];unfold Tb.jd;rw[Tb.l9,hlv,if_pos rfl,Int.toNat_natCast];by_cases c:(Tb.aC x.g.S j).1=4294967295
 ·rw[if_pos c];exact⟨hn,rfl,by rw[Tb.ib hjl,if_pos rfl],rfl,fun m hm=>by rw[Tb.ib hjl,if_neg hm]⟩
 ·rw[if_neg c];exact⟨hn,rfl,by rw[Tb.ib hjl,if_pos rfl],rfl,fun m hm=>by rw[Tb.ib hjl,if_neg hm]⟩
theorem Cs {h owner:Int} (h0:Tb.bF x h=0) (hb:¬Tb.jC owner) {j:Nat} (hj:Tb.aJ h=j):
  j<n∧(Tb.aC x.g.S j).2=true∧(Tb.dR x h owner).g=x.g∧Tb.aD (Tb.dR x h owner).E j={Tb.aD x.E j with owner:=owner}∧∀m,m≠j→Tb.aD (Tb.dR x h owner).E m=Tb.aD x.E m:=by
 obtain⟨j',hj',hjl,hlv,_,_⟩:=Tb.kH h0;obtain rfl:j=j':=by omega
 have hn:j<n:=by have:=hI.g.len;omega
 have hjE:j<x.E.length:=by rw[hI.len];exact hn
 unfold Tb.dR;rw[if_pos ⟨h0,hb⟩,hj,Int.toNat_natCast];exact⟨hn,hlv,rfl,by rw[Tb.jM hjE,if_pos rfl],fun m hm=>by rw[Tb.jM hjE,if_neg hm]⟩
theorem D7 {j:Nat} (hj:j<n) (hn:n≤4096) (hl:(Tb.aC x.g.S j).2=true) (hf1:1≤first):Tb.aJ (Tb.aD x.E j).h=j∧Tb.bF x (Tb.aD x.E j).h=0∧(0≤(Tb.aD x.E j).h∧(Tb.aD x.E j).h≤18446744073709551615):=by
 obtain⟨ht,he⟩:=hI.ok j hj hl;have hg:first≤(Tb.aC x.g.S j).1∧(Tb.aC x.g.S j).1≤4294967295:=by
  rcases hI.g.mK j hj with h|h
  ·rw[h]at hl;cases hl
  ·exact h
 have hs:0≤(j:Int)∧(j:Int)≤16777215:=by omega
 have hg':1≤(Tb.aC x.g.S j).1∧(Tb.aC x.g.S j).1≤4294967295:=by omega
 have e1:=Tb.Bj (g:=(Tb.aC x.g.S j).1) (t:=(Tb.aD x.E j).tag) hs;have e2:=Tb.Cx (t:=(Tb.aD x.E j).tag) hs hg';have e3:=Tb.Dm (t:=(Tb.aD x.E j).tag) hs hg';rw[←he]at e1 e2 e3;refine⟨e1,?_,?_⟩
 ·have hlen:=hI.g.len;unfold Tb.bF;rw[e1,e2,e3,if_neg (by omega),Tb.l9,Int.toNat_natCast,if_neg (by simp[hl]),if_neg (by simp)]
 ·rw[he];unfold Tb.eI;omega
end
theorem qt {A C:List Tb.bP} {e:Tb.bP} {L:List Bw.ak} (p:Int):lI (A++e::C) L p=if p=e.owner then(lI (A++C) L p).add ⟨e.len,1,0⟩else lI (A++C) L p:=by
 have e1:A++e::C=A++([e]++C):=rfl;unfold lI Qt.Q.add;rw[e1,rR,rR,rR,rT,rT,rT,BA,Bd];by_cases h:p=e.owner
 ·rw[if_pos h,if_pos h.symm,if_pos h.symm];simp only[Qt.Q.mk.injEq];omega
 ·rw[if_neg h,if_neg (Ne.symm h),if_neg (Ne.symm h)];simp only[Qt.Q.mk.injEq];exact⟨by omega,by omega,trivial⟩
end Go.Proofs.YtdehaommhbjakaaGreat
namespace Go.Proofs.YtdehaommhbjakaaGreat
open RowKit Stg
def jx (s:HS) (j:Nat):Option Ob:=(eS s.T j).map fun e=>(dD e,bH s j)
def ct (c:HC) (s:HS):List Ob:=(List.range c.n).filterMap (jx s)
theorem ft (c:HC) (s:HS):(ct c s).map (·.1)=bA c s:=by
 unfold ct bA iq;rw[sK,List.map_filterMap,List.map_filterMap];exact pj fun j _=>by unfold jx;cases eS s.T j<;>rfl
theorem Fz {c:HC} {s:HS} {j:Nat} (hj:j<c.n) (hl:(Tb.aC s.T.g.S j).2=true):(dD (Tb.aD s.T.E j),bH s j)∈ct c s:=by
 unfold ct;rw[List.mem_filterMap];exact⟨j,List.mem_range.2 hj,by unfold jx;rw[mc hl];rfl⟩
theorem ic {c:HC} {s:HS} {j:Nat} (hj:j<c.n) (hl:(Tb.aC s.T.g.S j).2=true):Tb.aD s.T.E j∈iq c s:=xS.2 ⟨j,hj,mc hl⟩
theorem qd {c:HC} {s s':HS} {j:Nat} (hj:j<c.n) (h:∀m,m≠j→eS s'.T m=eS s.T m∧bH s' m=bH s m):
  ∃A C A' C',iq c s=A++((eS s.T j).toList++C)∧iq c s'=A++((eS s'.T j).toList++C)∧ct c s=A'++((jx s j).toList++C')∧ct c s'=A'++((jx s' j).toList++C'):=by
 obtain⟨A,C,h1⟩:=xL (eS s.T) hj;obtain⟨A',C',h2⟩:=xL (jx s) hj;exact⟨A,C,A',C',h1 _ fun _ _ _=>rfl,h1 _ fun m _ hm=>(h m hm).1,h2 _ fun _ _ _=>rfl,h2 _ fun m _ hm=>by unfold jx;rw[(h m hm).1,(h m hm).2]⟩
theorem sQ {s:HS} {j:Nat} (hj:j<s.mem.length) {l:List Int} {T:Tb.TS} (m:Nat):bH {s with T:=T,mem:=s.mem.set j l} m=if m=j then l else bH s m:=by
 unfold bH;simp only[List.getD_eq_getElem?_getD];by_cases e:m=j
 ·subst e;simp[hj]
 ·rw[if_neg e,List.getElem?_set_ne (Ne.symm e)]
theorem zT {E:List Tb.bP} (h:∀e∈E,0≤e.len) (p:Int):0≤j7 p E:=by
 unfold j7
 induction E with
 |nil=>simp
 |cons e E ih=>
  have h1:=h e (by simp);have h2:=ih fun x hx=>h x (List.mem_cons_of_mem _ hx)
  rw[List.filter_cons];split
  ·rw[List.map_cons,List.sum_cons];omega
  ·exact h2
def ku (x l:Qt.Q):Prop:=x.b≤l.b∧x.o≤l.o∧x.r≤l.r
theorem tx {l x q:Qt.Q} (h:Qt.cj l x q=0):ku (x.add q) l:=by
 unfold Qt.cj at h;split at h
 ·cases h
 ·split at h
  ·rename_i hf;simp only[Qt.kh,Bool.and_eq_true,decide_eq_true_eq]at hf;unfold ku Qt.Q.add;simp only;omega
  ·cases h
section
variable {c:HC} {k:Nat} {s s':HS}
theorem az.pos (hc:c.Ok) (hI:az c k s) (p:Int):(aF c s p).pos:=by
 have hl:=hI.lim p;have hp:=hc.lim;unfold Qt.Q.pos at*;have h1:0≤j7 p (iq c s):=zT (fun e he=>by have:=hI.eA.len (e:=dD e) (List.mem_map_of_mem he);unfold dD at this;simp only at this;omega) p;unfold aF lI at*;simp only at*;unfold lG at*;omega
theorem az.slot (hI:az c k s) {j:Nat} (hj:j<c.n) (hT:Tb.eX c.n c.first s'.T) (hR:s'.R=s.R) (hst:s'.st=s.st) (hL:s'.L=s.L) (hev:s'.evs=s.evs) (hms:s'.miss=s.miss) (hml:s'.mem.length=c.n)
  (hoth:∀m,m≠j→Tb.aC s'.T.g.S m=Tb.aC s.T.g.S m∧Tb.aD s'.T.E m=Tb.aD s.T.E m∧bH s' m=bH s m)
  (hu:cJ c.size (bA c s'))
  (hnew:(Tb.aC s'.T.g.S j).2=true→(s.st (Tb.aD s'.T.E j).owner=1∧(1≤(Tb.aD s'.T.E j).tag∧(Tb.aD s'.T.E j).tag≤s.R.length)∧(Tb.aD s'.T.E j).len=cB (bI s (Tb.aD s'.T.E j).tag))∧(bH s' j).length=bI s (Tb.aD s'.T.E j).tag)
  (hdead:(Tb.aC s'.T.g.S j).2=false→bH s' j=[]) (hB:∀b∈bH s' j,0≤b∧b≤255)
  (hbor:∀b∈s.L,b.1.1=j→(Tb.aC s'.T.g.S j).2=true∧(Tb.aD s'.T.E j).owner≠b.1.2) (hlim:∀p,ku (aF c s' p) c.lim):az c k s':=by
 have hsz:∀t,bI s' t=bI s t:=fun t=>by unfold bI ja;rw[hR]
 refine⟨hT,by rw[hL];exact hI.e9,by rw[hL];exact hI.jS,by rw[hR];exact hI.kA,by rw[hR];exact hI.lQ,by rw[hev];exact hI.kz,by rw[hev];exact hI.nJ,by rw[hms];exact hI.lM,hu,fun e he=> ?_,hml,fun m hm hl=> ?_,fun m=> ?_,fun m hd=> ?_,fun b hb=> ?_,hlim,by rw[hst];exact hI.st⟩
 ·obtain⟨m,hm,hml⟩:=xS.1 he;obtain⟨hl,rfl⟩:=An hml;rw[hst,hR,hsz];by_cases e:m=j
  ·subst e;exact(hnew hl).1
  ·obtain⟨h1,h2,h3⟩:=hoth m e;rw[h2];rw[h1]at hl;exact hI.cG _ (ic hm hl)
 ·rw[hsz];by_cases e:m=j
  ·subst e;exact(hnew hl).2
  ·obtain⟨h1,h2,h3⟩:=hoth m e;rw[h2,h3];rw[h1]at hl;exact hI.mem m hm hl
 ·by_cases e:m=j
  ·subst e;exact hB
  ·rw[(hoth m e).2.2];exact hI.ko m
 ·by_cases e:m=j
  ·subst e;exact hdead hd
  ·obtain⟨h1,_,h3⟩:=hoth m e;rw[h3];rw[h1]at hd;exact hI.dead m hd
 ·rw[hL]at hb;rw[hst];obtain⟨h1,m,h2,h3,h4⟩:=hI.jE b hb;refine⟨h1,m,h2,?_⟩;by_cases e:m=j
  ·subst e;exact hbor b hb h2
  ·obtain⟨q1,q2,_⟩:=hoth m e;rw[q1,q2];exact⟨h3,h4⟩
end
theorem size_pos {t:Ty.Ty} (h:Ty.du t):1≤Ty.cC t.1 t.2∧Ty.cC t.1 t.2≤65536:=by
 obtain⟨h0,h1,h2,hg,hs,k1,k2⟩:=Ty.ou h;refine⟨?_,hs⟩;unfold Ty.cC;by_cases c:0<t.1
 ·rw[if_pos c];have hl:=k1 c;rw[Ty.oX hl];have:=(Ty.jh (hg _ (List.getElem_mem (by omega:0<t.2.length)))).2.2.1;have:=Int.mul_pos c (show 0<Ty.wid (t.2[0]'(by omega)) by omega);omega
 ·rw[if_neg c];have hl:=k2 (by omega);obtain⟨r1,r2,r3,r4⟩:=Ty.pD t.2 hg;unfold Ty.jQ;have:=(Ty.jI (n:=(Ty.bu t.2).1) r3).1;have e:t.2=t.2.take (t.2.length-1)++[t.2[t.2.length-1]'(by omega)]:=by
   have:=Ty.jJ t.2 (k:=t.2.length-1) (by omega);rw[show t.2.length-1+1=t.2.length by omega,List.take_length]at this;exact this
  have h3:=Ty.oo t.2 hg (t.2.length-1) (by omega);have h4:=Ty.jh (hg _ (List.getElem_mem (by omega:t.2.length-1<t.2.length)));have e2:(Ty.bu t.2).1=Ty.dj (Ty.bu (t.2.take (t.2.length-1))).1 (Ty.cu (t.2[t.2.length-1]'(by omega)))+Ty.wid (t.2[t.2.length-1]'(by omega)):=by
   conv=>lhs;rw[e,Ty.mV]
   rfl
  have h5:=(Ty.jI (n:=(Ty.bu (t.2.take (t.2.length-1))).1) (k:=Ty.cu (t.2[t.2.length-1]'(by omega))) (by omega)).1;omega
theorem az.ty {c:HC} {k:Nat} {s:HS} (_:c.Ok) (hI:az c k s) (tag:Int) (h:Ty.ee s.R tag=0):(1≤tag∧tag≤s.R.length)∧Ty.du (ja s tag):=by
 unfold Ty.ee at h;split at h
 ·rename_i hr;refine⟨hr,hI.kA _ ?_⟩;unfold ja Ty.aN;rw[if_pos hr,List.getD_eq_getElem?_getD,List.getElem?_eq_getElem (by omega)];exact List.getElem_mem _
 ·cases h
section
variable {c:HC} {k:Nat} {s:HS} (hc:c.Ok) (hI:az c k s)
include hc hI
theorem az.mF {tag:Int} (h:1≤tag∧tag≤s.R.length):Ty.du (ja s tag):=(az.ty hc hI tag (by unfold Ty.ee;rw[if_pos h])).2
end
end Go.Proofs.YtdehaommhbjakaaGreat
