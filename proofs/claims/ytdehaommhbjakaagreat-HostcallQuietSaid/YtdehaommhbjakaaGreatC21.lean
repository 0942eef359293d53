/- Joined contracts. No conditions. -/
import Derived.Test.YtdehaommhbjakaaGreatC20
set_option maxHeartbeats 1600000
set_option maxRecDepth 10000
namespace Go.Proofs.YtdehaommhbjakaaGreat.Bw
open RowKit Stg
theorem Gh {w:World} {c ck:Nat} {es:Array MapEntry} {o:Int} (ty:TypeId) (hb:w.heap[c]? =some (.map es ck)) (h:cL es.toList):∃w',(Builtin.delete_ #[140,3] ty #[.map (some c),.int .i64 o]).run Tryz.prog w=.ok (.tuple #[]) w'∧w'.heap[c]? =some (.map (lS o es) ck)∧Mod [c] w w':=
 ⟨_,uk Tryz.underlying140 Tryz.underlying3 hb h o #[140,3] rfl,ie hb,(Mod.refl _ w).gj (.inl (by simp)) _⟩
theorem su {w:World} {b:Nat} {L:List ak} {f:List Nat} (h:(eu b L).on w f) (hS:di L) (hl:L.length≤1000000) {x:ak} (yo yh ym yc:Int) (hg:aK L (yo,yh)=some x):
  Calls Tryz.prog 166 #[.pointer (some ⟨b,0,none⟩),.agg #[.int .i64 yo,.int .i64 yh,.int .i64 ym,.int .i64 yc]] w (bD (eu b (bW L (yo,yh))) (.tuple #[]) w f):=by
 rcases h with⟨hb,hL,rfl⟩|⟨a,c,bs,hb,hab,hcb,hac,hM,hp,hC,rfl⟩
 ·subst hL;cases hg
 ·obtain⟨es,ck,hc,hCA⟩:=hC.at;have hse:=zh fun q=>rz hS.nodup hg q
  have hnod:=zh (((hp.map (·.1)).nodup_iff).2 hS.nodup);have hol:(aW L yo).length≤L.length:=List.length_filter_le _ _;have hlk:=hCA.get yo;have hn1:1≤(aW L yo).length:=by have:=rz hS.nodup hg yo;rw[if_pos rfl]at this;omega
  obtain⟨n,hn⟩:∃n:Int,n=((aW L yo).length:Nat):=⟨_,rfl⟩;have hnb:1≤n∧n≤1000000:=by omega
  rw[←hn]at hlk;have hlkH:=zh hlk;have hnH:=zh hn;have hpH:=zh hp;have hCAH:=zh hCA;have h1b:=zh (aI (o:=.cells #[.int .i64 yo,.int .i64 yh,.int .i64 ym,.int .i64 yc] 222) hb);have h1y:=zh (an w (.cells #[.int .i64 yo,.int .i64 yh,.int .i64 ym,.int .i64 yc] 222));have h1M:=zh (hM.mod ((Mod.refl [] w).alloc (.cells #[.int .i64 yo,.int .i64 yh,.int .i64 ym,.int .i64 yc] 222)) (by simp));have h1c:=zh (aI (o:=.cells #[.int .i64 yo,.int .i64 yh,.int .i64 ym,.int .i64 yc] 222) hc);have h1m:=zh ((Mod.refl [b,a,c] w).alloc (.cells #[.int .i64 yo,.int .i64 yh,.int .i64 ym,.int .i64 yc] 222));have hay:=hM.lt;have hcy:=aL hc;have hab':=zh hab;have hcb':=zh hcb;have hac':=zh hac;clear hS hg hp hCA hlk hn hb hM hC hc hol hn1 hl hab hcb hac;have hab:=zh hab'.out;have hcb:=zh hcb'.out;have hac:=zh hac'.out;clear hab' hcb' hac';go_enter Tryz.func166,Tryz.ntmps166;go_wp2_with fail;generalize hyb:w.heap.size=y at*;generalize w.alloc (.cells #[.int .i64 yo,.int .i64 yh,.int .i64 ym,.int .i64 yc] 222)=W0 at*;have q1:=GW.cells (S:=[a]) h1b.out (by simpa using hab.out.symm);have q2:=GW.cells (S:=[a]) h1y.out (by simpa using Nat.ne_of_gt hay);refine bY (fun w'=>∃x:GW [a] W0,w'=x.1) (fun w'=>Mod [] W0 w') (by kernel_rfl) (by kernel_rfl) (fun _ h=>ah.of (h.mono (by simp))) (Mod.refl _ _).drew ?_;refine sq 9 ?_;refine rV (fun w'=>Mod [a] W0 w'∧∃bs',dg w' a bs'∧bs'.Perm (bW bs (yo,yh))) rfl rfl rfl rfl (fun w' h=> ?_) (fun _ h=>ah.of h.1) ?_
  ·obtain⟨w4,bs',hr,hM,hmd,hsz,hp⟩:=G3 (h1M.out.mod h (by simp)) hnod.out (yo,yh) _;exact⟨w4,hr,(h.mono (by simp)).trans hmd,bs',hM,hp⟩
  simp only[Act.put];refine au fun W1 hm1=> ?_
  obtain⟨hm1,bs1,hM1,hp1⟩:=hm1;have hmAA:=zh hm1;have h2b:=zh (hm1.at h1b.out (by simpa using hab.out.symm));have h2y:=zh (hm1.at h1y.out (by simpa using Nat.ne_of_gt hay));have h2c:=zh (hm1.at h1c.out (by simpa using hac.out.symm));have h2M:=zh hM1;have hp1H:=zh hp1;have h2m:=zh (h1m.out.then hm1 (fun x hx=>.inl (by simp at hx;simp[hx])));clear q1 q2 hm1 hM1 hp1 hmAA h1b h1y h1c h1m h1M;go_wp2_with fail;have q1:=GW.cells (S:=[]) h2b.out (by simp);have q2:=GW.cells (S:=[]) h2y.out (by simp);have q3:∀x:GW [] W1,(Instr.lookup 140 (.map (some c)) (.int .i64 yo) false).run Tryz.prog x.1=.ok (.int .i64 n) x.1:=fun x=>by
   rw[jG Tryz.underlying140 Tryz.underlying3 Tryz.zeroValue3 (x.2.at h2c.out (by simp)) hCAH.out.1,hlkH.out]
  refine bY (fun w'=>∃x:GW [] W1,w'=x.1) (fun w'=>Mod [] W1 w') (by kernel_rfl) (by kernel_rfl) (fun _ h=>ah.of h) (Mod.refl _ _).drew ?_;refine sq 8 ?_;refine zV (fun w'=>Mod [c] W1 w'∧w'.heap[c]? =some (.map (c9 yo (.int .i64 (n-1)) ck es).1 (c9 yo (.int .i64 (n-1)) ck es).2)) rfl rfl (by kernel_rfl) rfl rfl rfl rfl (fun w' h=> ?_) ?_
  ·obtain⟨w4,hr,h4,hmd,_⟩:=yL (o:=yo) (n:=n-1) (h.at h2c.out (by simp)) hCAH.out.1;exact⟨w4,hr,(h.mono (by simp)).trans hmd,h4⟩
  rintro W2 ⟨hm2,hc2⟩;have h3b:=zh (hm2.at h2b.out (by simpa using hcb.out.symm));have h3y:=zh (hm2.at h2y.out (by simpa using Nat.ne_of_gt hcy));have h3c:=zh hc2;have h3M:=zh (h2M.out.mod hm2 (by simpa using hac.out));have h3m:=zh (h2m.out.then hm2 (fun x hx=>.inl (by simp at hx;simp[hx])));have hk3:=kE yo (.int .i64 (n-1)) ck es hCAH.out.1;have hk3H:=zh hk3;clear q1 q2 q3 hm2 hc2 h2b h2y h2c h2m h2M hk3;go_wp2_with fail;have q1:=GW.cells (S:=[]) h3b.out (by simp);have q2:=GW.cells (S:=[]) h3y.out (by simp);have q3:∀x:GW [] W2,(Instr.lookup 140 (.map (some c)) (.int .i64 yo) false).run Tryz.prog x.1=.ok (.int .i64 (n-1)) x.1:=fun x=>by
   rw[jG Tryz.underlying140 Tryz.underlying3 Tryz.zeroValue3 (x.2.at h3c.out (by simp)) hk3H.out.1,hk3H.out.2,if_pos rfl];rfl
  by_cases h1:n=1
  ·subst h1;refine aS (by kernel_rfl) (by kernel_rfl) ?_;refine sq 8 ?_;refine au fun W3 hm3=> ?_
   have h4b:=zh (hm3.at h3b.out (by simp));have h4y:=zh (hm3.at h3y.out (by simp));have h4c:=zh (hm3.at h3c.out (by simp));have h4M:=zh (h3M.out.mod hm3 (by simp));have h4m:=zh (h3m.out.ag hm3);clear q1 q2 q3 hm3 h3b h3y h3c h3m h3M;go_wp2_with fail;have q1:=GW.cells (S:=[c]) h4b.out (by simpa using hcb.out.symm);have q2:=GW.cells (S:=[c]) h4y.out (by simpa using Nat.ne_of_gt hcy);refine bY (fun w'=>∃x:GW [c] W3,w'=x.1) (fun w'=>Mod [] W3 w') (by kernel_rfl) (by kernel_rfl) (fun _ h=>ah.of (h.mono (by simp))) (Mod.refl _ _).drew ?_;refine sq 6 ?_;refine rV (fun w'=>Mod [c] W3 w'∧w'.heap[c]? =some (.map (lS yo (c9 yo (.int .i64 (1-1)) ck es).1) (c9 yo (.int .i64 (1-1)) ck es).2)) rfl rfl rfl rfl (fun w' h=> ?_) (fun _ h=>ah.of h.1) ?_
   ·obtain⟨w4,hr,h4,hmd⟩:=Gh (o:=yo) _ (h.at h4c.out (by simp)) hk3H.out.1;exact⟨w4,hr,(h.mono (by simp)).trans hmd,h4⟩
   simp only[Act.put];refine au fun W4 hm4=> ?_
   obtain⟨hm4,hc4⟩:=hm4;have hbF:=zh (hm4.at h4b.out (by simpa using hcb.out.symm));have hMF:=zh (h4M.out.mod hm4 (by simpa using hac.out));have hmFF:=zh (h4m.out.then hm4 (fun x hx=>.inl (by simp at hx;simp[hx])));have hcF:=zh hc4;clear q1 q2 hm4 hc4;go_wp2_with fail;go_end0;have hcnt:=hCAH.out.last (o:=yo) hse.out ck (.int .i64 (1-1)) (by have:=hnH.out;omega);refine⟨[b,a,c],rfl,dz.of hbF.out hab.out hcb.out hac.out hMF.out (hp1H.out.trans (hpH.out.filter _)) (hcnt.is hcF.out),hmFF.out,fun x hx=>.inl hx⟩
  ·have z:(n-1==0)=false:=by simp;omega
   refine aS (by kernel_rfl) (by kernel_rfl) ?_;refine sq 8 ?_;refine au fun W3 hm3=> ?_
   have hbF:=zh (hm3.at h3b.out (by simp));have hcF:=zh (hm3.at h3c.out (by simp));have hMF:=zh (h3M.out.mod hm3 (by simp));have hmFF:=zh (h3m.out.ag hm3);clear q1 q2 q3 hm3;go_wp2_with fail;go_end0;have hcnt:=hCAH.out.less (o:=yo) hse.out ck (n:=n-1) (by have:=hnH.out;omega) (by omega);refine⟨[b,a,c],rfl,dz.of hbF.out hab.out hcb.out hac.out hMF.out (hp1H.out.trans (hpH.out.filter _)) (hcnt.is hcF.out),hmFF.out,fun x hx=>.inl hx⟩
end Go.Proofs.YtdehaommhbjakaaGreat.Bw
namespace Go
namespace Stg
theorem af.own {c:ai} {w:World} {f:List Nat} (h:c.on w f):af f w [c] w:=by
 have:=af.start (cs:=[c]) (w:=w) (fp:=f++[]) ⟨f,[],h,rfl,by simp,rfl⟩
 rwa [List.append_nil]at this
theorem af.qK {c':ai} {w w':World} {f:List Nat} {v:Value} (h:af f w [c'] w'):bD c' v w f (.returned v) w':=by
 obtain⟨h1,fp,⟨f',g,k1,k2,_,rfl⟩,h3⟩:=h;exact⟨f',rfl,k1,h1,fun x hx=>h3 x (List.mem_append_left _ hx)⟩
end Stg
end Go
namespace Go.Proofs.YtdehaommhbjakaaGreat.Bw
open RowKit Stg
theorem wm {L:List ak} {k:Int×Int} {x:ak} (h:aK L k=some x):mI L k=0:=by unfold mI;rw[h]
theorem wv {L:List ak} {k:Int×Int} (h:aK L k=none):mI L k=13:=by unfold mI;rw[h]
theorem vI {L:List ak} {k:Int×Int} (h:aK L k=none):dH L k=L:=by unfold dH;rw[h]
theorem CP {L:List ak} {k:Int×Int} {m:Int} (h:aK L k=some (k,(m,1))):dH L k=bW L k:=by unfold dH;rw[h];rfl
theorem Cv {L:List ak} {k:Int×Int} {m c:Int} (h:aK L k=some (k,(m,c))) (hc:c≠1):dH L k=gU L (k,(m,c-1)):=by unfold dH;rw[h];simp[hc]
theorem Bq {w:World} {b:Nat} {L:List ak} {f:List Nat} (h:(eu b L).on w f) {N:Int} (hI:dF N L) (hN:N≤1000000) (hl:L.length≤1000000) (o k:Int):
  Calls Tryz.prog 126 #[.pointer (some ⟨b,0,none⟩),.int .i64 o,.int .i64 k] w (bD (eu b (dH L (o,k))) (.int .i64 (mI L (o,k))) w f):=by
 have hho:=qh (gD.of h) hI.gE o k
 cases hg:aK L (o,k)with
 |none=>
  rw[hg]at hho;rw[wv hg,vI hg];have hhoH:=zh hho;have hhH:=zh h;clear hho h hI hg;go_enter Tryz.func126,Tryz.ntmps126;go_wp2_with fail;refine hhoH.out.mono ?_;unfold fO bv b0;rintro e w1 ⟨rfl,hm1⟩;have hm1H:=zh hm1;clear hm1;go_wp2_with fail;go_ret;exact bD.same hhH.out (by repeat (first|exact hm1H.out|refine Mod.alloc ?_ _))
 |some x=>
  obtain⟨⟨xo,xk⟩,m,c0⟩:=x;have hk:=(iF hg).2;simp only[Prod.mk.injEq]at hk;obtain⟨rfl,rfl⟩:=hk;have h1:=hI.one _ (iF hg).1;simp only at h1;rw[hg]at hho;rw[wm hg];have hhoH:=zh hho;have hgH:=zh hg;have hs:=zh hI.gE;by_cases hc1:c0=1
  ·subst hc1;rw[CP hg];have hhH:=zh h;clear hho h hI hg;go_enter Tryz.func126,Tryz.ntmps126;go_wp2_with fail;refine hhoH.out.mono ?_;unfold fO bv;rintro e w1 ⟨rfl,hm1⟩;have hm2:=hm1.alloc (.cells #[.int .i64 xo,.int .i64 xk,.int .i64 m,.int .i64 0] 222);have hm2H:=zh hm2;clear hm1 hm2;go_wp2_with fail;refine(su ((eu b L).bj hhH.out hm2H.out (by simp)) hs.out hl xo xk m 0 hgH.out).mono ?_;rintro e w3 ⟨f',rfl,k1,k2,k3⟩;have hfin:Hid (bD (eu b (bW L (xo,xk))) (.int .i64 0) w f (.returned (.int .i64 0)) w3):=zh ⟨f',rfl,k1,(hm2H.out.mono (by simp)).then k2 (fun x hx=>.inl hx),fun x hx=>(k3 x hx).imp id (fun h=>Nat.le_trans hm2H.out.size h)⟩;clear k1 k2 k3;go_wp2_with fail;go_ret;exact hfin.out
  ·rw[Cv hg hc1];have hz:(c0-1==0)=false:=by simp;omega
   rcases h with⟨hb,hL,rfl⟩|⟨a,c,bs,hb,hab,hcb,hac,hM,hp,hC,rfl⟩
   ·subst hL;cases hg
   ·have hcs:=zh (hC.same fun q=>pw hI.gE.nodup (b:=((xo,xk),(m,c0-1))) hg q);have hnod:=zh (((hp.map (·.1)).nodup_iff).2 hI.gE.nodup);have hbH:=zh hb;have hMH:=zh hM;have hpH:=zh hp;have hab':=zh hab;have hcb':=zh hcb;have hac':=zh hac;have hay:=zh hM.lt;clear hho hI hg hb hM hp hC hab hcb hac;go_enter Tryz.func126,Tryz.ntmps126;go_wp2_with fail;refine hhoH.out.mono ?_;unfold fO bv;rintro e w1 ⟨rfl,hm1⟩;have hm2:=hm1.alloc (.cells #[.int .i64 xo,.int .i64 xk,.int .i64 m,.int .i64 (c0-1)] 222);have hbox:=an w1 (.cells #[.int .i64 xo,.int .i64 xk,.int .i64 m,.int .i64 (c0-1)] 222);have hsz:=hm1.size;have hm2H:=zh hm2;have hboxH:=zh hbox;clear hm1 hm2 hbox;go_wp2_with fail;generalize hss:w1.heap.size=s at*;generalize w1.alloc (.cells #[.int .i64 xo,.int .i64 xk,.int .i64 m,.int .i64 (c0-1)] 222)=W at*;have h2b:=zh (hm2H.out.at hbH.out (by simp));have h2M:=zh (hMH.out.mod hm2H.out (by simp));have q1:=GW.cells (S:=[a]) h2b.out (by simpa using hab'.out.symm);have q2:=GW.cells (S:=[a]) hboxH.out (by simpa using Nat.ne_of_gt (Nat.lt_of_lt_of_le hay.out hsz));refine bY (fun w'=>∃x:GW [a] W,w'=x.1) (fun w'=>Mod [] W w') (by kernel_rfl) (by kernel_rfl) (fun _ h=>ah.of (h.mono (by simp))) (Mod.refl _ _).drew ?_;refine sq 8 ?_;refine kF (fun w'=>Mod [a] W w'∧∃bs',dg w' a bs'∧bs'.Perm (((xo,xk),(m,c0-1))::bW bs (xo,xk))) rfl rfl rfl rfl rfl (fun w' h=> ?_) (fun _ h=>ah.of h.1) ?_
    ·obtain⟨w4,bs',hr,hM,hmd,hsz,hp⟩:=kT (h2M.out.mod h (by simp)) hnod.out ((xo,xk),(m,c0-1));exact⟨w4,hr,(h.mono (by simp)).trans hmd,bs',hM,hp⟩
    simp only[Act.put];refine au fun W3 hm3=> ?_
    obtain⟨hm3,bs',hM3,hp3⟩:=hm3;have hm3H:=zh hm3;have hM3H:=zh hM3;have hp3H:=zh hp3;clear hm3 hM3 hp3 q1 q2;go_wp2_with fail;go_ret;exact⟨[b,a,c],rfl,dz.of (hm3H.out.at h2b.out (by simpa using hab'.out.symm)) hab'.out hcb'.out hac'.out hM3H.out (hp3H.out.trans (((hpH.out.filter _).cons _).trans (ig L _).symm)) ((hcs.out.mod hm2H.out (by simp)).mod hm3H.out (by simpa using hac'.out.symm)),(hm2H.out.mono (by simp)).then hm3H.out (fun x hx=>.inl (by simp at hx;simp[hx])),fun x hx=>.inl hx⟩
end Go.Proofs.YtdehaommhbjakaaGreat.Bw
namespace Go
namespace Stg
theorem aU.out:∀ {cs:List ai} {w:World} {fp:List Nat} (i:Nat) {c:ai},aU cs w fp→cs[i]? =some c→
  ∃f g,c.on w f∧aU (cs.eraseIdx i) w g∧(∀x∈f,x∉g)∧∀x,x∈fp↔x∈f∨x∈g
 | [],_,_,_,_,_,hi=>by simp at hi
 |c0::cs,w,fp,0,c,⟨f,g,h1,h2,h3,e⟩,hi=>by
  obtain rfl:c0=c:=by simpa using hi
  exact⟨f,g,h1,h2,h3,fun x=>by rw[e,List.mem_append]⟩
 |c0::cs,w,fp,i+1,c,⟨f0,g,h1,h2,h3,e⟩,hi=>by
  obtain⟨f,g',k1,k2,k3,k4⟩:=aU.out i h2 (by simpa using hi);refine⟨f,f0++g',k1,⟨f0,g',h1,k2,fun x hx hxg=>h3 x hx ((k4 x).2 (.inr hxg)),rfl⟩,fun x hx hxg=> ?_,fun x=> ?_⟩
  ·rcases List.mem_append.1 hxg with h|h
   ·exact h3 x h ((k4 x).2 (.inl hx))
   ·exact k3 x hx h
  ·rw[e,List.mem_append,List.mem_append,k4];constructor
   ·rintro(h|h|h)
    ·exact .inr (.inl h)
    ·exact .inl h
    ·exact .inr (.inr h)
   ·rintro(h|h|h)
    ·exact .inr (.inl h)
    ·exact .inl h
    ·exact .inr (.inr h)
theorem aU.back:∀ {cs:List ai} {w:World} {f g:List Nat} (i:Nat) {c:ai},i<cs.length→c.on w f→aU (cs.eraseIdx i) w g→(∀x∈f,x∉g)→
  ∃fp,aU (cs.set i c) w fp∧∀x,x∈fp↔x∈f∨x∈g
 | [],_,_,_,_,_,hi,_,_,_=>by simp at hi
 |c0::cs,w,f,g,0,c,_,h1,h2,h3=>⟨f++g,⟨f,g,h1,h2,h3,rfl⟩,fun x=>by rw[List.mem_append]⟩
 |c0::cs,w,f,g,i+1,c,hi,h1,⟨f0,g0,k1,k2,k3,e⟩,h3=>by
  subst e;obtain⟨fp,n1,n2⟩:=aU.back i (by simpa using hi) h1 k2 fun x hx hxg=>h3 x hx (List.mem_append_right _ hxg)
  refine⟨f0++fp,⟨f0,fp,k1,n1,fun x hx hxp=> ?_,rfl⟩,fun x=> ?_⟩
  ·rcases(n2 x).1 hxp with h|h
   ·exact h3 x h (List.mem_append_left _ hx)
   ·exact k3 x hx h
  ·rw[List.mem_append,List.mem_append,n2];constructor
   ·rintro(h|h|h)
    ·exact .inr (.inl h)
    ·exact .inl h
    ·exact .inr (.inr h)
   ·rintro(h|h|h)
    ·exact .inr (.inl h)
    ·exact .inl h
    ·exact .inr (.inr h)
section
variable {F:List Nat} {W w:World} {cs:List ai}
theorem af.out (i:Nat) {c:ai} (h:af F W cs w) (hi:cs[i]? =some c):af F W (c::cs.eraseIdx i) w:=by
 obtain⟨h1,fp,h2,h3⟩:=h;obtain⟨f,g,k1,k2,k3,k4⟩:=h2.out i hi;exact⟨h1,f++g,⟨f,g,k1,k2,k3,rfl⟩,fun x hx=>h3 x ((k4 x).2 (List.mem_append.1 hx))⟩
theorem af.back (i:Nat) {c:ai} (hi:i<cs.length) (h:af F W (c::cs.eraseIdx i) w):af F W (cs.set i c) w:=by
 obtain⟨h1,fp,⟨f,g,k1,k2,k3,e⟩,h3⟩:=h;subst e;obtain⟨fp',n1,n2⟩:=aU.back i hi k1 k2 k3;exact⟨h1,fp',n1,fun x hx=>h3 x (List.mem_append.2 ((n2 x).1 hx))⟩
theorem af.zu {a b:ai} (h:af F W (a::b::cs) w):af F W (ai.all [a,b]::cs) w:=by
 obtain⟨h1,fp,⟨f,_,ha,⟨g,k,hb,hc,hgk,rfl⟩,hfg,rfl⟩,h3⟩:=h;refine⟨h1,_,⟨f++(g++[]),k,⟨f,g++[],ha,⟨g,[],hb,rfl,by simp,rfl⟩,fun x hx hxg=>hfg x hx (by simp at hxg;simp[hxg]),rfl⟩,hc,fun x hx hxk=> ?_,rfl⟩,fun x hx=>h3 x (by simpa[or_assoc]using hx)⟩;rcases List.mem_append.1 hx with h|h
 ·exact hfg x h (List.mem_append_right _ hxk)
 ·exact hgk x (by simpa using h) hxk
theorem af.yZ {a b:ai} (h:af F W (ai.all [a,b]::cs) w):af F W (a::b::cs) w:=by
 obtain⟨h1,fp,⟨f0,k,⟨f,g0,ha,⟨g,z,hb,hz,_,rfl⟩,hfg,rfl⟩,hc,hk,rfl⟩,h3⟩:=h;have hz':z=[]:=hz;subst hz';refine⟨h1,f++(g++k),⟨f,g++k,ha,⟨g,k,hb,hc,fun x hx hxk=>hk x (by simp[hx]) hxk,rfl⟩,fun x hx hxg=> ?_,rfl⟩,fun x hx=>h3 x (by simpa[or_assoc]using hx)⟩;rcases List.mem_append.1 hxg with h|h
 ·exact hfg x hx (by simp[h])
 ·exact hk x (by simp[hx]) h
theorem af.kj {a b:ai} (h:af F W (a::b::cs) w):∃f g,a.on w f∧b.on w g∧(∀x∈f,x∉g)∧∀w' f' g' a' b',ai.on a' w' f'→ai.on b' w' g'→(∀x∈f',x∉g')→Mod (f++g) w w'→(∀x,x∈f'∨x∈g'→(x∈f∨x∈g)∨w.heap.size≤x)→af F W (a'::b'::cs) w':=by
 obtain⟨h0,⟨f,g0,ha,⟨g,z,hb,hz,_,rfl⟩,hfg,rfl⟩,hk⟩:=h.zu.part 0 rfl;have hz':z=[]:=hz;subst hz';simp only[List.append_nil]at hfg hk;refine⟨f,g,ha,hb,hfg,fun w' f' g' a' b' k1 k2 k3 k4 k5=>af.yZ (hk w' (f'++(g'++[])) (ai.all [a',b']) ⟨f',g'++[],k1,⟨g',[],k2,rfl,by simp,rfl⟩,fun x hx hxg=>k3 x hx (by simpa using hxg),rfl⟩ k4 fun x hx=> ?_)⟩;rcases k5 x (by simpa using hx)with h|h
 ·exact .inl (List.mem_append.2 h)
 ·exact .inr h
end
theorem af.two {F:List Nat} {W w:World} {cs:List ai} (i j:Nat) {c c':ai} (h:af F W cs w) (hi:cs[i]? =some c) (hj:(cs.eraseIdx i)[j]? =some c'):∃f g,c.on w f∧c'.on w g∧∀x∈f,x∉g:=by
 obtain⟨_,fp,h2,_⟩:=h;obtain⟨f,g,k1,k2,k3,_⟩:=h2.out i hi;obtain⟨f',g',n1,_,_,n4⟩:=k2.out j hj;exact⟨f,f',k1,n1,fun x hx hxf=>k3 x hx ((n4 x).2 (.inl hxf))⟩
theorem af.bO {F:List Nat} {W w:World} {cs:List ai} (i:Nat) {b:Nat} {xs:Array Value} {T:TypeId} {fr:Nat×Nat} (h:af F W cs w) (hi:cs[i]? =some (aj b (.cells xs T fr))) (o:Nat) (v:Value):
  af F W (cs.set i (aj b (.cells (xs.setIfInBounds o v) T fr))) (w.setCell ⟨b,o,none⟩ v):=by
 obtain⟨f,⟨h1,hf⟩,hk⟩:=h.part i hi;subst hf;exact hk _ _ _ ⟨aq h1,rfl⟩ ((Mod.refl _ w).setCell (.inl (by simp)) v) (fun x hx=>.inl hx)
theorem af.jT {c:ai} {w:World} {f:List Nat} (h:c.on w f):af f w [c] w:=af.start ⟨f,[],h,rfl,by simp,by simp⟩
theorem af.kd {c':ai} {w w':World} {f:List Nat} {v:Value} (h:af f w [c'] w'):bD c' v w f (.returned v) w':=by
 obtain⟨h1,fp,⟨g,z,h2,hz,_,rfl⟩,h3⟩:=h;have hz':z=[]:=hz;subst hz';exact⟨g,rfl,h2,h1,by simpa using h3⟩
theorem af.mD {F:List Nat} {W w:World} {cs:List ai} (i:Nat) {c:ai} (h:af F W cs w) (hi:cs[i]? =some c):
  ∃f:List Nat,c.on w f∧(∀(w':World) (f':List Nat) (c':ai),ai.on c' w' f'→Mod f w w'→(∀x∈f',x∈f∨w.heap.size≤x)→af F W (cs.set i c') w')∧∀(j b:Nat) (o:Obj),(cs.eraseIdx i)[j]? =some (aj b o)→b∉f:=by
 obtain⟨hm,fp,hh,hf⟩:=h;obtain⟨f,g,h1,h2,h3,h4⟩:=hh.out i hi;have hlt:i<cs.length:=(List.getElem?_eq_some_iff.1 hi).1;refine⟨f,h1,fun w' f' c' k1 k2 k3=> ?_,fun j b o hj hb=> ?_⟩
 ·have hg':=h2.bj k2 fun x hx hxf=>h3 x hxf hx
  obtain⟨fp',n1,n2⟩:=aU.back i hlt k1 hg' fun x hx hxg=>(k3 x hx).elim (fun h=>h3 x h hxg) (fun h=>by have:=h2.lt x hxg;omega)
  refine⟨hm.then k2 fun x hx=>hf x ((h4 x).2 (.inl hx)),fp',n1,fun x hx=> ?_⟩;rcases(n2 x).1 hx with h|h
  ·rcases k3 x h with h|h
   ·exact hf x ((h4 x).2 (.inl h))
   ·exact .inr (Nat.le_trans hm.size h)
  ·exact hf x ((h4 x).2 (.inr h))
 ·obtain⟨f2,⟨_,rfl⟩,k2,_⟩:=aU.part j h2 hj;exact h3 b hb (k2 b (by simp))
theorem aU.append:∀ {cs ds:List ai} {w:World} {f g:List Nat},aU cs w f→aU ds w g→(∀x∈f,x∉g)→aU (cs++ds) w (f++g)
 | [],_,_,_,_,h,k,_=>by subst h;exact k
 |_::_,_,_,_,g,⟨f1,f2,h1,h2,h3,e⟩,k,hd=>by
  subst e;refine⟨f1,f2++g,h1,h2.append k fun x hx=>hd x (List.mem_append_right _ hx),fun x hx hx2=> ?_,by rw[List.append_assoc]⟩;rcases List.mem_append.1 hx2 with h|h
  ·exact h3 x hx h
  ·exact hd x (List.mem_append_left _ hx) h
theorem af.split {F:List Nat} {W w:World} {cs ds:List ai} (h:af F W (ai.all ds::cs) w):af F W (ds++cs) w:=by
 obtain⟨hm,fp,⟨f,g,h1,h2,h3,e⟩,h4⟩:=h;subst e;exact⟨hm,f++g,aU.append h1 h2 h3,h4⟩
theorem aU.qA:∀ {ds cs:List ai} {w:World} {fp:List Nat},aU (ds++cs) w fp→∃f g,aU ds w f∧aU cs w g∧(∀x∈f,x∉g)∧fp=f++g
 | [],_,_,fp,h=>⟨[],fp,rfl,h,by simp,rfl⟩
 |_::_,_,_,_,⟨f1,f2,h1,h2,h3,e⟩=>by
  obtain⟨f,g,k1,k2,k3,k4⟩:=h2.qA;subst e k4;refine⟨f1++f,g,⟨f1,f,h1,k1,fun x hx hxf=>h3 x hx (List.mem_append_left _ hxf),rfl⟩,k2,fun x hx hxg=> ?_,(List.append_assoc _ _ _).symm⟩;rcases List.mem_append.1 hx with h|h
  ·exact h3 x h (List.mem_append_right _ hxg)
  ·exact k3 x h hxg
theorem af.join {F:List Nat} {W w:World} {cs:List ai} (ds:List ai) (h:af F W (ds++cs) w):af F W (ai.all ds::cs) w:=by
 obtain⟨hm,fp,h2,h4⟩:=h;obtain⟨f,g,k1,k2,k3,rfl⟩:=h2.qA;exact⟨hm,f++g,⟨f,g,k1,k2,k3,rfl⟩,h4⟩
theorem af.imp {F:List Nat} {W w:World} {cs:List ai} (i:Nat) {c c':ai} (h:af F W cs w) (hi:cs[i]? =some c) (hc:∀g,c.on w g→c'.on w g):af F W (cs.set i c') w:=by
 obtain⟨f,h1,h2⟩:=h.part i hi;exact h2 w f c' (hc f h1) (Mod.refl _ _) fun _ hx=>.inl hx
theorem af.js {F:List Nat} {W w:World} {cs:List ai} {c:ai} (ds:List ai) (h:af F W (ds++cs) w) (hc:∀g,aU ds w g→c.on w g):af F W (c::cs) w:=
 (h.join ds).imp 0 (c':=c) rfl hc
end Stg
end Go
namespace Go
namespace Stg
section
variable {P:Program}
theorem bV {id:Nat} {Q:Exit→Act→World→Prop} {a:Act} (fa:List Nat) {W:World} {l:List Oper} (hm:P.follows .mixedOrders=true) (hB:oR .any l.toArray=true)
  (h:aH P l.toArray (fun w'=>∃x:GW fa W,w'=x.1) (LetsOut Q) (fun a' w'=>Q .normal a' w') l (fun w'=>Mod [] W w') a):(Code.region id l.toArray true).wp P Q a W:=
 bY (fun w'=>∃x:GW fa W,w'=x.1) (fun w'=>Mod [] W w') hm hB (fun _ h=>ah.of (h.mono (by simp))) (Mod.refl _ _).drew h
def la (c':ai) (fa:List Nat) (W w':World):Prop:=Mod fa W w'∧∃f',c'.on w' f'∧∀x∈f',x∈fa∨W.heap.size≤x
end
section
variable {P:Program} {ops:Array Oper} {Out:Prop} {Q:Act→World→Prop}
theorem cX {fa:List Nat} {W:World} (f:FuncId) (args:Array Value) (v:Value) {o:Oper} {rest:List Oper} {a:Act} {asx:Array Operand} {ts:Array TypeId}
  (hop:o.op=.call ⟨.value (.func f),asx,ts⟩) (hcall:∀(args:Array Value) w,(callFunc f args).run P w=.ok (.enter f args) w)
  (hw:Region.wanted o (yielded ops a.tmps)=true) (hargs:(asx.toList.map a.eval).toArray=args)
  (hc:∀w,Mod [] W w→Calls P f args w fun e w'=>e=.returned v∧Mod [] w w')
  (h:aH P ops (fun w'=>∃x:GW fa W,w'=x.1) Out Q rest (fun w'=>Mod [] W w') (a.put o.dst v)):
  aH P ops (fun w'=>∃x:GW fa W,w'=x.1) Out Q (o::rest) (fun w'=>Mod [] W w') a:=
 dL f args v (fun w'=>Mod [] W w') hop hcall hw hargs (fun w hm=>(hc w hm).mono fun _ _ ⟨he,k⟩=>⟨he,hm.ag k⟩) (fun _ h=>ah.of (h.mono (by simp))) h
theorem cE {fa:List Nat} {W:World} {c':ai} (f:FuncId) (args:Array Value) (v:Value) {o:Oper} {rest:List Oper} {a:Act} {asx:Array Operand} {ts:Array TypeId}
  (hop:o.op=.call ⟨.value (.func f),asx,ts⟩) (hcall:∀(args:Array Value) w,(callFunc f args).run P w=.ok (.enter f args) w)
  (hw:Region.wanted o (yielded ops a.tmps)=true) (hargs:(asx.toList.map a.eval).toArray=args)
  (hc:∀w,Mod [] W w→Calls P f args w (bD c' v w fa))
  (h:aH P ops (fun w'=>∃x:GW fa W,w'=x.1) Out Q rest (fun w'=>la c' fa W w') (a.put o.dst v)):
  aH P ops (fun w'=>∃x:GW fa W,w'=x.1) Out Q (o::rest) (fun w'=>Mod [] W w') a:=
 dL f args v (fun w'=>la c' fa W w') hop hcall hw hargs (fun w hm=>(hc w hm).mono fun _ _ ⟨f',he,k1,k2,k3⟩=>⟨he,(hm.mono (by simp)).trans k2,f',k1,fun x hx=>(k3 x hx).imp id fun h=>Nat.le_trans hm.size h⟩) (fun _ h=>ah.of h.1) h
end
section
variable {P:Program} {ops:Array Oper} {I:World→Prop} {Out:Prop} {Q:Act→World→Prop}
theorem cQ {o:Oper} {rest:List Oper} {C:World→Prop} {a:Act} {t:TypeId} {x y:Operand} {p:Addr} {u:Value} (f:World→World) (C':World→Prop) (hop:o.op=.store t x y) (hd:o.dst=none) (hw:Region.wanted o (yielded ops a.tmps)=true)
  (hx:a.eval x=.pointer (some p)) (hy:a.eval y=u) (hrun:∀w,C w→(Instr.storeAt t (.pointer (some p)) u).run P w=.ok () (f w)) (hC:∀w,C w→C' (f w)) (hI:∀w,C' w→I w) (h:aH P ops I Out Q rest C' a):
  aH P ops I Out Q (o::rest) C a:=by
 unfold aH;have he:aY o=true:=by simp[aY,hop]
 simp only[hw,he,if_true];refine⟨fun v=>v=undef,fun v w'=>v=undef∧C' w',⟨undef,rfl⟩,fun w hc=> ?_,fun v w hv=>⟨hv.1,.inr (hI w hv.2)⟩,fun v hv=> ?_⟩
 ·unfold gives;have hr:(execOp a.eval o).run P w=.ok .skip (f w):=by simp[execOp,hop,hx,hy,hrun w hc]
  rw[hr];exact⟨rfl,hC w hc⟩
 ·subst hv;have e:(fun(v:Value) w'=>v=undef∧C' w') undef=C':=by funext w';simp
  rw[e,hd];exact h
theorem ry:∀ {l:List Oper} {C C':World→Prop} {a:Act},(∀w,C w→C' w)→aH P ops I Out Q l C' a→aH P ops I Out Q l C a
 | [],_,_,_,hC,h=>by
  unfold aH at*;exact fun w hw=>h w (hC w hw)
 |o::l,C,C',a,hC,h=>by
  unfold aH at*;split
  ·rename_i hw;simp only[hw,if_true]at h;split
   ·rename_i he;simp only[he,if_true]at h;obtain⟨V,R,h1,h2,h3,h4⟩:=h;exact⟨V,R,h1,fun w hw=>h2 w (hC w hw),h3,h4⟩
   ·rename_i he;simp only[he,if_false,Bool.false_eq_true]at h;obtain⟨v,h1,h2⟩:=h;exact⟨v,h1,ry hC h2⟩
  ·rename_i hw;simp only[hw,if_false,Bool.false_eq_true]at h;exact ry hC h
theorem sy {l:List Oper} {C:World→Prop} {a:Act} (C':World→Prop) (hC:∀w,C w→C' w) (h:aH P ops I Out Q l C' a):aH P ops I Out Q l C a:=ry hC h
end
theorem mu {P:Program} {c:Code} {Q:Exit→Act→World→Prop} {a:Act} {w:World} (W0:World) (o:Obj) (FR:Nat→Act)
  (h:c.wp P (fun e a' w'=>e=.normal∧∃p,a'=FR p∧Mod [] W0 w'∧W0.heap.size≤p∧w'.heap[p]? =some o) a w) (hk:∀p w',Mod [] W0 w'→W0.heap.size≤p→w'.heap[p]? =some o→Q .normal (FR p) w'):c.wp P Q a w:=
 wp_mono h (by rintro e a' w' ⟨rfl,p,rfl,h1,h2,h3⟩;exact hk p w' h1 h2 h3)
theorem uM {b:Nat} {T:TypeId} {fr:Nat×Nat}:∀(vs:List Value) (o:Nat) (w:World) (zs:Array Value),w.heap[b]? =some (.cells zs T fr)→(w.setCells b o vs).heap[b]? =some (.cells (kf zs.toList o vs).toArray T fr)
 | [],_,_,zs,h=>by rw[World.setCells,kf,Array.toArray_toList];exact h
 |v::r,o,w,zs,h=>by
  rw[World.setCells,kf];have:=uM r (o+1) _ _ (aq (o:=o) (v:=v) h);rw[Array.toList_setIfInBounds]at this;exact this
theorem dK {w:World} {b:Nat} {T:TypeId} {fr:Nat×Nat} {zs cs:Array Value} (h:w.heap[b]? =some (.cells zs T fr)) (hs:zs.size=cs.size):(w.setCells b 0 cs.toList).heap[b]? =some (.cells cs T fr):=by
 rw[uM cs.toList 0 w zs h];congr 2;apply Array.ext';simp only;apply List.ext_getElem?;intro i;rw[pW];by_cases c:i<zs.size
 ·rw[if_pos (by simp;omega)];simp
 ·rw[if_neg (by simp;omega),List.getElem?_eq_none (by simp;omega),List.getElem?_eq_none (by simp;omega)]
theorem eC {w:World} {b:Nat} {T:TypeId} {zs:Array Value} {n:Nat} (h:w.heap[b]? =some (.cells zs T (0,0))) (hn:n=zs.size):w.there b 0 n:=fun j hj=>by
 rw[ae h,ay h,Nat.zero_add];exact⟨by simp;omega,rfl⟩
theorem af.behind {F:List Nat} {W w:World} {c:ai} {ds cs:List ai} (h:af F W (c::(ds++cs)) w):af F W (ds++c::cs) w:=by
 obtain⟨hm,fp,⟨f,g,h1,h2,h3,rfl⟩,h4⟩:=h;obtain⟨f1,g1,k1,k2,k3,rfl⟩:=h2.qA;refine⟨hm,f1++(f++g1),aU.append k1 ⟨f,g1,h1,k2,fun x hx hxg=>h3 x hx (List.mem_append_right _ hxg),rfl⟩ fun x hx hxg=> ?_,fun x hx=>h4 x ?_⟩
 ·rcases List.mem_append.1 hxg with h|h
  ·exact h3 x h (List.mem_append_left _ hx)
  ·exact k3 x hx h
 ·simp only[List.mem_append]at hx⊢;rcases hx with h|h|h
  ·exact .inr (.inl h)
  ·exact .inl h
  ·exact .inr (.inr h)
theorem af.dJ {F:List Nat} {W w:World} {cs:List ai} (i:Nat) {c:ai} (h:af F W cs w) (hi:cs[i]? =some c):
  ∃fa:List Nat,(∀w',Mod [] w w'→c.on w' fa)∧(∀(w':World) (c':ai),la c' fa w w'→af F W (cs.set i c') w')∧∀(j b:Nat) (o:Obj),(cs.eraseIdx i)[j]? =some (aj b o)→b∉fa:=by
 obtain⟨fa,h1,h2,h3⟩:=h.mD i hi;exact⟨fa,fun w' hm=>ai.bj c h1 hm (by simp),fun w' c' ⟨k1,f',k2,k3⟩=>h2 w' f' c' k2 k1 k3,h3⟩
end Stg
end Go
namespace Go
namespace Stg
structure Site (k:Nat) (w:World) (b:Nat) (cs:Array Value) (T:TypeId) (v:Value):Prop where
 sz:k<cs.size
 aQ:w.heap[b]? =some (.cells (cs.setIfInBounds k v) T (0,0))
section
variable {k:Nat} {w w':World} {b:Nat} {cs:Array Value} {T:TypeId} {v:Value}
theorem Site.cell (h:Site k w b cs T v):w.cell? ⟨b,k,none⟩=some v:=by
 rw[ae h.aQ];simp[h.sz]
theorem Site.other (h:Site k w b cs T v) {o:Nat} (ho:o≠k):w.cell? ⟨b,o,none⟩=cs[o]? :=by
 rw[ae h.aQ,Array.getElem?_setIfInBounds_ne (Ne.symm ho)]
theorem Site.frozen (h:Site k w b cs T v):∀o,w.frozen? ⟨b,o,none⟩=false:=ay h.aQ
theorem Site.lt (h:Site k w b cs T v):b<w.heap.size:=aL h.aQ
theorem Site.mod {S:List Nat} (h:Site k w b cs T v) (hm:Mod S w w') (hS:b∉S):Site k w' b cs T v:=⟨h.sz,hm.at h.aQ hS⟩
theorem Site.put (h:Site k w b cs T v) (u:Value):Site k (w.setCell ⟨b,k,none⟩ u) b cs T u:=by
 refine⟨h.sz,?_⟩;have:=aq (o:=k) (v:=u) h.aQ;rw[Array.setIfInBounds_setIfInBounds]at this;exact this
theorem Site.of {xs:Array Value} {T:TypeId} (h:w.heap[b]? =some (.cells xs T (0,0))) (hk:k<xs.size):Site k w b xs T xs[k]:=by
 refine⟨hk,?_⟩;rw[h];congr 2;apply Array.ext
 ·simp
 ·intro i h1 h2;by_cases e:k=i
  ·subst e;simp
  ·rw[Array.getElem_setIfInBounds_ne (h:=e)]
end
def kR (k b:Nat) (cs:Array Value) (T:TypeId) (v:Value):ai:=
 ⟨fun w f=>Site k w b cs T v∧f=[b],fun h hm hT=>⟨h.1.mod hm (hT b (by rw[h.2];simp)),h.2⟩,fun h x hx=>by rw[h.2,List.mem_singleton]at hx;subst hx;exact h.1.lt⟩
theorem GW.site {S:List Nat} {W:World} {k b:Nat} {cs:Array Value} {T:TypeId} {v:Value} (h:Site k W b cs T v) (hb:b∉S):∀x:GW S W,x.1.cell? ⟨b,k,none⟩=some v:=fun x=>(h.mod x.2 hb).cell
theorem af.site {F:List Nat} {W w:World} {cs:List ai} (i:Nat) {k b:Nat} {xs:Array Value} {T:TypeId} {v:Value} (h:af F W cs w) (hi:cs[i]? =some (kR k b xs T v)):Site k w b xs T v:=
 let ⟨_,h1,_⟩:=h.part i hi;h1.1
theorem af.th {F:List Nat} {W w:World} {cs:List ai} (i:Nat) {k b:Nat} {xs:Array Value} {T:TypeId} {v:Value} (h:af F W cs w) (hi:cs[i]? =some (kR k b xs T v)) (u:Value):af F W (cs.set i (kR k b xs T u)) (w.setCell ⟨b,k,none⟩ u):=by
 obtain⟨f,⟨h1,hf⟩,hk⟩:=h.part i hi;subst hf;exact hk _ _ _ ⟨h1.put u,rfl⟩ ((Mod.refl _ w).setCell (.inl (by simp)) u) (fun x hx=>.inl hx)
end Stg
end Go
namespace Go
namespace Stg
section
variable {P:Program} {ops:Array Oper} {I:World→Prop}
theorem jf {Out:Prop} (f:FuncId) (args:Array Value) (V:Value→Prop) (C':Value→World→Prop) {o:Oper} {C:World→Prop} {a:Act} {K:(World→Prop)→Act→Prop} {asz:Array Operand} {ts:Array TypeId}
  (hop:o.op=.call ⟨.value (.func f),asz,ts⟩) (hcall:∀(args:Array Value) w,(callFunc f args).run P w=.ok (.enter f args) w) (hargs:(asz.toList.map a.eval).toArray=args) (hV:∃v,V v)
  (hc:∀w,C w→Calls P f args w fun e w'=>∃v,e=.returned v∧V v∧C' v w') (hI:∀v w,C' v w→I w)
  (h:∀v,V v→K (C' v) (a.put o.dst v)):∃(V:Value→Prop) (R:Value→World→Prop),(∃v,V v)∧(∀w,C w→gives P o a w Out R)∧(∀v w,R v w→V v∧I w)∧∀v,V v→K (R v) (a.put o.dst v):=by
 refine⟨V,fun u w=>V u∧C' u w,hV,fun w hC=> ?_,fun u w h1=>⟨h1.1,hI u w h1.2⟩,fun u hu=> ?_⟩
 ·unfold gives;rw[nw hop rfl hcall w,hargs];exact(hc w hC).mono fun e w' ⟨v,h1,h2,h3⟩=>by subst h1;exact⟨h2,h3⟩
 ·have e:(fun w=>V u∧C' u w)=C' u:=by
   funext w;simp[hu]
  have h':=h u hu;rw[←e]at h';exact h'
end
end Stg
end Go
namespace Go.Proofs.YtdehaommhbjakaaGreat.Bw
open RowKit Stg
theorem eM {P:Program} {w w':World} {o:Oper} {a:Act} {v u v':Value} (s x:Operand) (t:TypeId) (ho:o.op=.call {callee:=.builtin .append,args:=#[s,x],argTypes:=#[t,t]}) (hs:a.eval s=v) (hx:a.eval x=u)
  (hr:(Builtin.append_ #[t,t] o.type #[v,u]).run P w=.ok v' w'):(execOp a.eval o).run P w=.ok (.value v') w':=by
 unfold execOp;simp[ho,resolve,invoke,builtin,hs,hx,hr,Result.andThen]
theorem p6 {w:World} {base sz n:Nat} {e:TypeId} {v:Value} {xs:List Value} (h:w.ownsRow base e sz v n xs):∃a l c,v=.slice a l c:=by
 rcases dr h with⟨rfl,_⟩|⟨g,cap,rfl,_⟩<;>exact⟨_,_,_,rfl⟩
def zE (x:ak) (M:List ak) (j:Nat):List ak:=M.take j++x::M.drop j
end Go.Proofs.YtdehaommhbjakaaGreat.Bw
namespace Go.Proofs.YtdehaommhbjakaaGreat.Qt
open RowKit Stg
def tK:List (Int×Q)→List Value
 | []=>[]
 |s::l=>.int .i64 s.1:: .int .i64 s.2.b:: .int .i64 s.2.o:: .int .i64 s.2.r::tK l
def zA (p:Int):List (Int×Q)→Q
 | []=>Q.zero
 |s::l=>if s.1=p then s.2 else zA p l
def zz (p:Int) (q:Q) (l:List (Int×Q)):List (Int×Q):=l.filter (fun s=>s.1 != p)++[(p,q)]
structure fC (w:World) (b:Nat) (cs:Array Value) (T:TypeId) (sv:Value) (l:Q) (L:List (Int×Q)):Prop where
 lim:l.i64
 aQ:Site 17 w b cs T sv
 Hl:cs[14]? =some (.int .i64 l.b)∧cs[15]? =some (.int .i64 l.o)∧cs[16]? =some (.int .i64 l.r)
 row:w.ownsRow 0 344 4 sv L.length (tK L)
 ne:sv.ownBlock≠some b
 len:L.length≤1000000
theorem fC.mod {S:List Nat} {w w':World} {b:Nat} {cs:Array Value} {T:TypeId} {sv:Value} {l:Q} {L:List (Int×Q)} (h:fC w b cs T sv l L) (hm:Mod S w w') (hS:∀x,x∈b::sv.ownBlock.toList→x∉S):fC w' b cs T sv l L:=
 ⟨h.lim,h.aQ.mod hm (hS b (by simp)),h.Hl,aG h.row hm (fun g hg=>hS g (by simp[hg])),h.ne,h.len⟩
end Go.Proofs.YtdehaommhbjakaaGreat.Qt
