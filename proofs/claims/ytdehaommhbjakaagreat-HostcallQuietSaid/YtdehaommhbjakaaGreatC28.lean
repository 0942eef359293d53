/- Joined contracts. No conditions. -/
import Derived.Test.YtdehaommhbjakaaGreatC27
set_option maxHeartbeats 8000000
set_option maxRecDepth 20000
namespace Go.Proofs.YtdehaommhbjakaaGreat
open RowKit Stg
open Ty (aw fF ax eL iR fD fW)
theorem BQ {w:World} {s:List Ext} {sb so cap:Nat} (h:aw w (.slice (some ⟨sb,so,none⟩) s.length cap) s) {i:Nat} (hi:i≤s.length) (o c:Nat) (ho:i<s.length→o=so+i*2):aw w (.slice (some ⟨sb,o,none⟩) (s.length-i) c) (s.drop i):=by
 by_cases h1:i<s.length
 ·rw[ho h1];exact od h h1 c
 ·have e:i=s.length:=by omega
  have hlt:sb<w.heap.size:=by
   rcases h with⟨h,_⟩|⟨_,_,_,h,h2,_⟩
   ·simp at h
   ·simp at h;obtain⟨⟨rfl,rfl⟩,_⟩:=h;exact h2
  subst e;rw[List.drop_length,Nat.sub_self];exact .inr ⟨sb,o,c,rfl,hlt,by simp,fun j hj=>by simp at hj⟩
theorem hZ {w:World} {s:List Ext} {sb so n cap:Nat} (h:aw w (.slice (some ⟨sb,so,none⟩) n cap) s) (hn:n=s.length) {i:Nat} (hi:i≤n):aw w (.slice (some ⟨sb,so,none⟩) i cap) (s.take i):=by
 subst hn;exact wL h hi
theorem hU {w:World} {s:List Ext} {sb so n cap:Nat} (h:aw w (.slice (some ⟨sb,so,none⟩) n cap) s) (hn:n=s.length) {i:Nat} (hi:i≤n) (o c m:Nat) (hm:m=n-i) (ho:i<n→o=so+i*2):aw w (.slice (some ⟨sb,o,none⟩) m c) (s.drop i):=by
 subst hn hm;exact BQ h hi o c ho
structure ql (s:List Ext) (e:Ext) (m:Nat):Prop where
 le:m≤s.length
 low:∀i (hi:i<s.length),i<m→s[i].1+s[i].2≤e.1
 high:∀i (hi:i<s.length),m≤i→e.1+e.2≤s[i].1
def F4 (w:World) (s:List Ext) (e:Ext) (r:Ending) (w':World):Prop:=
 ∃u s',r=.returned (.tuple #[u,.int .i64 0])∧VS s'∧(∀y,bB y s'↔bB y s∨bw y e)∧s'.length≤s.length+1∧w'.ownsRow w.heap.size 104 2 u s'.length (ax s')∧Mod [] w w'
def cn (s:List Ext) (f l:Nat) (x:Ext):List Ext:=s.take f++[x]++s.drop l
theorem VS.at {s:List Ext} (hs:VS s) {i j:Nat} (hij:i<j) (hj:j<s.length):s[i].1+s[i].2<s[j].1:=List.pairwise_iff_getElem.1 hs.2 i j (by omega) hj hij
theorem uN {s:List Ext} {f:Nat} {a:Ext} (h:a∈s.take f):∃i,∃(hi:i<s.length),i<f∧s[i]=a:=by
 obtain⟨i,hi,he⟩:=List.getElem_of_mem h;simp at hi;exact⟨i,by omega,by omega,by rw[←he,List.getElem_take]⟩
theorem uP {s:List Ext} {f:Nat} {a:Ext} (h:a∈s.drop f):∃i,∃(hi:i<s.length),f≤i∧s[i]=a:=by
 obtain⟨i,hi,he⟩:=List.getElem_of_mem h;simp at hi;exact⟨f+i,by omega,by omega,by rw[←he,List.getElem_drop]⟩
theorem FJ {s:List Ext} {e:Ext} {m:Nat} (hs:VS s) (he:proper e) (hc:ql s e m) {f l:Nat} {x x1:Ext}
  (hz:(∃h:m-1<s.length,0<m∧s[m-1].1+s[m-1].2=e.1∧f=m-1∧x1=(s[m-1].1,s[m-1].2+e.2))∨((∀h:m-1<s.length,0<m→s[m-1].1+s[m-1].2≠e.1)∧m=f∧e=x1))
  (hy:(∃h:m<s.length,s[m].1=e.1+e.2∧l=m+1∧x=(x1.1,x1.2+s[m].2))∨((∀h:m<s.length,s[m].1≠e.1+e.2)∧m=l∧x1=x)):
  VS (cn s f l x)∧(∀y,bB y (cn s f l x)↔bB y s∨bw y e)∧(cn s f l x).length≤s.length+1:=by
 have hp:=fun i (hi:i<s.length)=>hs.1 s[i] (List.getElem_mem hi)
 obtain⟨lo,hlo,hA⟩:∃lo:Option Ext,(s.take m=s.take f++lo.toList∧(lo.elim e.1 (·.1),fR lo+e.2)=x1∧(∀b,lo=some b→b.1+b.2=e.1))∧∀a∈s.take f,a.1+a.2<e.1:=by
  clear hy;rcases hz with⟨h,h0,h1,rfl,rfl⟩|⟨h1,rfl,rfl⟩
  ·refine⟨some s[m-1],⟨?_,rfl,fun b hb=>by cases hb;exact h1⟩,fun a ha=> ?_⟩
   ·have:m=(m-1)+1:=by omega
    conv=>lhs;rw[this]
    rw[List.take_add_one,List.getElem?_eq_getElem h]
   ·obtain⟨i,hi,hlt,rfl⟩:=uN ha;have:=hs.at hlt h;have:=hp (m-1) h;unfold proper at this;omega
  ·refine⟨none,⟨by simp,by simp[fR],by simp⟩,fun a ha=> ?_⟩;obtain⟨i,hi,hlt,rfl⟩:=uN ha;have h2:=hc.low i hi hlt;have hm:m-1<s.length:=by have:=hc.le;omega
   have h3:=h1 hm (by omega);by_cases e1:i=m-1
   ·subst e1;omega
   ·have:=hs.at (i:=i) (j:=m-1) (by omega) hm;have h4:=hp (m-1) hm;unfold proper at h4;have:=hc.low (m-1) hm (by omega);omega
 obtain⟨ro,hro,hC⟩:∃ro:Option Ext,(s.drop m=ro.toList++s.drop l∧(x1.1,x1.2+fR ro)=x∧(∀b,ro=some b→b.1=e.1+e.2))∧∀c∈s.drop l,e.1+e.2<c.1:=by
  clear hz hA hlo;rcases hy with⟨h,h1,rfl,rfl⟩|⟨h1,rfl,rfl⟩
  ·refine⟨some s[m],⟨?_,rfl,fun b hb=>by cases hb;exact h1⟩,fun a ha=> ?_⟩
   ·rw[List.drop_eq_getElem_cons h];rfl
   ·obtain⟨i,hi,hlt,rfl⟩:=uP ha;have:=hs.at (i:=m) (j:=i) (by omega) hi;have h4:=hp m h;unfold proper at h4;omega
  ·refine⟨none,⟨by simp,by simp[fR],by simp⟩,fun a ha=> ?_⟩;obtain⟨i,hi,hlt,rfl⟩:=uP ha;have h2:=hc.high i hi hlt;by_cases e1:i=m
   ·subst e1;have:=h1 hi;omega
   ·have hl:m<s.length:=by omega
    have:=hs.at (i:=m) (j:=i) (by omega) hi;have h4:=hp m hl;unfold proper at h4;have:=hc.high m hl (Nat.le_refl _);omega
 have har:tG s e (s.take f) lo ro (s.drop l):=⟨by
  have:=List.take_append_drop m s;rw[hlo.1,hro.1,List.append_assoc]at this;exact this.symm,hA,hlo.2.2,hro.2.2,hC⟩
 have hx:dP lo e ro=x:=by
  rw[←hro.2.1, ←hlo.2.1];rfl
 obtain⟨k1,k2⟩:=uX har hs he;rw[hx]at k1 k2;have hl:cn s f l x=s.take f++x::s.drop l:=by unfold cn;simp
 rw[hl];refine⟨k1,k2,?_⟩;have h1:f≤m:=by rcases hz with⟨_,_,_,rfl,_⟩|⟨_,rfl,_⟩<;>omega
 have h2:m≤l:=by rcases hy with⟨_,_,rfl,_⟩|⟨_,rfl,_⟩<;>omega
 simp;have:=hc.le;omega
theorem oF {w:World} {g n cap:Nat} {s:List Ext} (h:aw w (.slice (some ⟨g,0,none⟩) n cap) s) {i:Nat} (hi:i<s.length):g<w.heap.size∧w.cell? ⟨g,i*2,none⟩=some (.int .i64 s[i].1)∧w.cell? ⟨g,i*2+1,none⟩=some (.int .i64 s[i].2):=by
 obtain⟨sb,so,c,hv,hg,c0,c1⟩:=fF h hi;simp at hv;obtain⟨⟨rfl,rfl⟩,_,_⟩:=hv;rw[Nat.zero_add]at c0 c1;exact⟨hg,c0,c1⟩
theorem CY {b0:Nat} {v:Value} {s:List Ext} {e:Ext} {w:World} (hrow:w.ownsRow b0 104 2 v s.length (ax s)) (hs:VS s) (hl:s.length≤50000) (he:proper e) (hm:∀a∈s,¬meets a e):
  Calls Tryz.prog 193 #[v,.agg #[.int .i64 e.1,.int .i64 e.2]] w (F4 w s e):=by
 have h:=fW hrow rfl;have hln:=fun ty w=>mf h ty w
 have hsl:(v=.slice none 0 0∧s=[])∨∃g cap,v=.slice (some ⟨g,0,none⟩) s.length cap∧s.length≤cap∧g<w.heap.size:=by
  rcases dr hrow with⟨h1,h2,_⟩|⟨g,cap,h1,_,h3,h4,_⟩
  ·exact .inl ⟨h1,List.length_eq_zero_iff.1 h2⟩
  ·exact .inr ⟨g,cap,h1,h4,h3⟩
 have hlaw:=zh fun(m f l:Nat) (x x1:Ext) (hc:ql s e m)=>FJ (f:=f) (l:=l) (x:=x) (x1:=x1) hs he hc
 have hH:=zh h;have hsH:=zh hs;have heH:=zh he;have hmH:=zh hm;have hpr:=he;unfold proper at hpr;obtain⟨n,hn⟩:∃n,n=s.length:=⟨_,rfl⟩;have hnH:=zh hn;rw[←hn]at hln hl hsl;clear h hs he hm hrow hn;obtain⟨eo,el⟩:=e;simp only at hpr;rcases hsl with⟨rfl,rfl⟩|⟨g,cap,rfl,hcap,hgl⟩
 ·have hn0:=hnH.out;simp only[List.length_nil]at hn0;subst hn0;have hbx0:=an w (.cells #[.int .i64 eo,.int .i64 el] 104);have hm0:=zh ((Mod.refl [] w).alloc (.cells #[.int .i64 eo,.int .i64 el] 104));go_enter Tryz.func193,Tryz.ntmps193;go_wp2_with fail;generalize hw0:w.alloc (.cells #[.int .i64 eo,.int .i64 el] 104)=w0 at*;generalize hbx:w.heap.size=bx at*;refine(pV (hH.out.mod hm0.out) hsH.out).mono ?_;rintro r w1 ⟨rfl,hm1⟩;have hbx1:=hm1.at hbx0 (by simp);have kx:=ae hbx1;have hm1H:=zh (hm0.out.ag hm1);have hbx1H:=zh hbx1;clear hm1 hbx0 hbx1 hm0;go_wp2_with fail;refine(nW eo el w1).mono ?_;rw[(pr (eo,el)).2 heH.out];rintro r w2 ⟨rfl,hm2⟩;have hbx2:=hm2.at hbx1H.out (by simp);have kx:=ae hbx2;have hm2H:=zh (hm1H.out.ag hm2);have hbx2H:=zh hbx2;clear hm2 hbx1H hm1H hbx2;go_wp2_with fail;refine(sX (hH.out.mod hm2H.out) hsH.out (by rw[←hnH.out];omega) eo).mono ?_;rintro r w3 ⟨m,rfl,hmn,k1,k2,hm3⟩;have hcut:ql [] (eo,el) m:=⟨hmn,fun i hi hlt=>k1 i hi hlt,fun i hi hle=>by
   have h1:=k2 i hi hle;have h2:=hmH.out (([]:List Ext)[i]) (List.getElem_mem hi);unfold meets at h2;simp only at h2⊢;omega⟩
  have hcutH:=zh hcut;have hbx3:=hm3.at hbx2H.out (by simp);have hm3H:=zh (hm2H.out.ag hm3);have hbx3H:=zh hbx3;rw[←hnH.out]at hmn;clear k1 k2 hm3 hbx2H hm2H hcut kx;have kx:=GW.cells (S:=[]) hbx3 (by simp);clear hbx3;go_wp2_with fail;obtain rfl:m=0:=by omega
  simp only[show((0:Nat):Int)=0 from rfl]at*;refine aS (by kernel_rfl) (by kernel_rfl) ?_;refine sq 11 ?_;refine iS rfl ?_;simp only[Act.put,sA,sB,sC];refine sq 2 ?_;refine au fun w4 hm4=> ?_
  have hbx4:=hm4.at hbx3H.out (by simp);have hm4H:=zh (hm3H.out.ag hm4);have hbx4H:=zh hbx4;clear kx hm4 hbx3H hm3H hbx4;go_wp2_with fail;have kx:=GW.cells (S:=[]) hbx4H.out (by simp);refine aS (by kernel_rfl) (by kernel_rfl) ?_;refine sq 8 ?_;refine iS rfl ?_;simp only[Act.put,sA,sB,sC];refine sq 4 ?_;refine au fun w6 hm6=> ?_
  have hbx6H:=zh (hm6.at hbx4H.out (by simp));have hm6H:=zh (hm4H.out.ag hm6);clear kx hm6 hm4H hbx4H;go_wp2_with fail;have kx:=GW.cells (S:=[]) hbx6H.out (by simp);refine aS (by kernel_rfl) (by kernel_rfl) ?_;refine sq 11 ?_;refine iS rfl ?_;simp only[Act.put,sA,sB,sC];refine sq 2 ?_;refine au fun W hm11=> ?_
  have hbW:=zh (hm11.at (hbx6H.out) (by simp));have hmW:=zh (hm6H.out.ag hm11);clear kx hm11;go_wp2_with fail;have hL:=zh (hlaw.out 0 0 0 (eo,el) (eo,el) hcutH.out (.inr ⟨fun _ h=>absurd h (by omega),rfl,rfl⟩) (.inr ⟨fun h=>absurd h (by simp),rfl,rfl⟩));have kx:=GW.cells (S:=[]) hbW.out (by simp);refine aS (by kernel_rfl) (by kernel_rfl) ?_;refine sq 4 ?_;refine aO (fun s1=>.slice (some ⟨s1,0,none⟩) 1 1) (.cells #[.int .i64 eo,.int .i64 el] 104 (0,0)) (fun s1 w'=>Mod [] W w'∧w'.heap[s1]? =some (.cells #[.int .i64 eo,.int .i64 el] 104 (0,0))) (by intro s s' h;simpa using h) rfl rfl (fun w' hw=> ?_) (fun w' hw=>⟨hw.alloc _,an _ _⟩) (fun s1 w' h=>ah.of h.1) (fun s1=> ?_)
  ·kernel_rfl
  refine sq 3 ?_;refine aO (fun s2=>.slice (some ⟨s2,0,none⟩) 3 3) (.cells #[.slice none 0 0,.slice (some ⟨s1,0,none⟩) 1 1,.slice none 0 0] 120 (0,0)) (fun s2 w'=>(Mod [] W w'∧w'.heap[s1]? =some (.cells #[.int .i64 eo,.int .i64 el] 104 (0,0)))∧w'.heap[s2]? =some (.cells #[.slice none 0 0,.slice (some ⟨s1,0,none⟩) 1 1,.slice none 0 0] 120 (0,0))) (by intro s s' h;simpa using h) rfl rfl (fun w' hw=> ?_) (fun w' hw=>⟨⟨hw.1.alloc _,aI hw.2⟩,an _ _⟩) (fun s w' h=>ah.of h.1.1) (fun s2=> ?_)
  ·kernel_rfl
  simp only[Act.put,sA,sB,sC];refine cD 203 _ (fun u=>∃a m c,u=.slice a m c) (fun u w'=>Mod [] W w'∧w'.ownsRow W.heap.size 104 2 u (cn [] 0 0 (eo,el)).length (ax (cn [] 0 0 (eo,el)))) rfl Tryz.call203 rfl rfl ⟨_,none,0,0,rfl⟩ (fun w' hw=> ?_) (fun u w' h=>ah.of h.1) (fun u hu=> ?_)
  ·have hF2:aw w' (.slice (some ⟨s1,0,none⟩) 1 1) [(eo,el)]:=Ty.fG hw.1.2;refine(gI hw.2 (f1:=[]) (f3:=[]) (.inl ⟨rfl,rfl⟩) hF2 (.inl ⟨rfl,rfl⟩) (by simp) (by simp) (by simp) (by simp)).mono ?_;rintro r w'' ⟨u,g1,g2,g3⟩;exact⟨u,g1,cx g2,hw.1.1.ag g3,aE g2 hw.1.1.size⟩
  obtain⟨ua,ul,uc,rfl⟩:=hu;refine sq 2 ?_;refine au fun w9 hw9=> ?_
  have hw9H:=zh hw9;clear kx hw9;go_wp2_with fail;go_ret2;exact⟨_,_,rfl,hL.out.1,hL.out.2.1,hL.out.2.2,aE hw9H.out.2 (by rw[hbx];have:=hmW.out.size;omega),hmW.out.ag hw9H.out.1⟩
 ·have hbx0:=an w (.cells #[.int .i64 eo,.int .i64 el] 104);have hm0:=zh ((Mod.refl [] w).alloc (.cells #[.int .i64 eo,.int .i64 el] 104));go_enter Tryz.func193,Tryz.ntmps193;go_wp2_with fail;generalize hw0:w.alloc (.cells #[.int .i64 eo,.int .i64 el] 104)=w0 at*;generalize hbx:w.heap.size=bx at*;refine(pV (hH.out.mod hm0.out) hsH.out).mono ?_;rintro r w1 ⟨rfl,hm1⟩;have hbx1:=hm1.at hbx0 (by simp);have kx:=ae hbx1;have hm1H:=zh (hm0.out.ag hm1);have hbx1H:=zh hbx1;clear hm1 hbx0 hbx1 hm0;go_wp2_with fail;refine(nW eo el w1).mono ?_;rw[(pr (eo,el)).2 heH.out];rintro r w2 ⟨rfl,hm2⟩;have hbx2:=hm2.at hbx1H.out (by simp);have kx:=ae hbx2;have hm2H:=zh (hm1H.out.ag hm2);have hbx2H:=zh hbx2;clear hm2 hbx1H hm1H hbx2;go_wp2_with fail;refine(sX (hH.out.mod hm2H.out) hsH.out (by rw[←hnH.out];omega) eo).mono ?_;rintro r w3 ⟨m,rfl,hmn,k1,k2,hm3⟩;have hcut:ql s (eo,el) m:=⟨hmn,fun i hi hlt=>k1 i hi hlt,fun i hi hle=>by
   have h1:=k2 i hi hle;have h2:=hmH.out ((s:List Ext)[i]) (List.getElem_mem hi);unfold meets at h2;simp only at h2⊢;omega⟩
  have hcutH:=zh hcut;have hbx3:=hm3.at hbx2H.out (by simp);have hm3H:=zh (hm2H.out.ag hm3);have hbx3H:=zh hbx3;rw[←hnH.out]at hmn;clear k1 k2 hm3 hbx2H hm2H hcut kx;have kx:=GW.cells (S:=[]) hbx3 (by simp);clear hbx3;go_wp2_with fail;by_cases hmlt:m<n
  ·have hlt1:decide ((m:Int)<n)=true:=by rw[decide_eq_true_eq];omega
   have hms:m<s.length:=by rw[←hnH.out];exact hmlt
   have hy:=hcutH.out.high m hms (Nat.le_refl _);have hyp:=hsH.out.1 s[m] (List.getElem_mem hms);obtain⟨y,hyd⟩:∃y,s[m]=y:=⟨_,rfl⟩;have hyc:=fun(w':World) (h:Mod [] w w')=>oF (hH.out.mod h) hms
   rw[hyd]at hy hyp hyc;have hydH:=zh hyd;have hycH:=zh hyc;obtain⟨yo,yl⟩:=y;simp only at hy;unfold proper at hyp;simp only at hyp;have hmsH:=zh hms;clear hyd hyc;have e3:decide (yo<eo+el)=false:=by rw[decide_eq_false_iff_not];omega
   obtain⟨hg,c0,c1⟩:=hycH.out w3 hm3H.out;have kc0:=GW.bR (S:=[]) c0 hg (by simp);have kc1:=GW.bR (S:=[]) c1 hg (by simp)
   try simp only at kc0 kc1
   clear c0 c1 hg;refine aS (by kernel_rfl) (by kernel_rfl) ?_;refine sq 11 ?_;refine b7 168 _ (.int .i64 (eo+el)) rfl Tryz.call168 rfl rfl (fun w' _=>dV eo el (by omega) (by omega) w') ?_;refine sq 2 ?_;refine au fun w4 hm4=> ?_
   have hbx4:=hm4.at hbx3H.out (by simp);have hm4H:=zh (hm3H.out.ag hm4);have hbx4H:=zh hbx4;clear kx kc0 kc1 hm4 hbx3H hm3H hbx4 e3;go_wp2_with fail;have kx:=GW.cells (S:=[]) hbx4H.out (by simp);by_cases h0:0<m
   ·obtain⟨k,rfl⟩:∃k,m=k+1:=⟨m-1,by omega⟩;have hks:k<s.length:=by rw[←hnH.out];omega
    have hzl:=hcutH.out.low k hks (by omega);have hzp:=hsH.out.1 s[k] (List.getElem_mem hks);obtain⟨hg,c0,c1⟩:=oF (hH.out.mod hm4H.out) hks;have kz0:=GW.bR (S:=[]) c0 hg (by simp);have kz1:=GW.bR (S:=[]) c1 hg (by simp);obtain⟨z,hzd⟩:∃z,s[k]=z:=⟨_,rfl⟩;rw[hzd]at hzl hzp kz0 kz1;obtain⟨zo,zl⟩:=z;simp only at hzl kz0 kz1;unfold proper at hzp;simp only at hzp;have hzdH:=zh hzd;have hksH:=zh hks;clear c0 c1 hg hzd;have hk1:((k+1:Nat):Int)=(k:Int)+1:=by simp
    rw[hk1]
    try rw[hk1]at hlt1
    clear hk1;refine aS (by kernel_rfl) (by kernel_rfl) ?_;refine sq 8 ?_;refine b7 168 _ (.int .i64 (zo+zl)) rfl Tryz.call168 rfl rfl (fun w' _=>dV zo zl (by omega) (by omega) w') ?_;simp only[Act.put,sA,sB,sC];by_cases hz:zo+zl=eo
    ·have ez:(zo+zl==eo)=true:=by simpa using hz
     have hzH:=zh hz;refine sq 4 ?_;refine au fun w5 hm5=> ?_
     have hbx5:=hm5.at hbx4H.out (by simp);have hm5H:=zh (hm4H.out.ag hm5);obtain⟨hg,c0,c1⟩:=oF (hH.out.mod hm5H.out) hksH.out;rw[hzdH.out]at c0 c1;have kz0:=GW.bR (S:=[]) c0 hg (by simp);have kz1:=GW.bR (S:=[]) c1 hg (by simp);simp only at kz0 kz1;have hbx5H:=zh hbx5;have kx:=GW.cells (S:=[]) hbx5 (by simp);clear c0 c1 hg hm5 hm4H hbx4H hbx5 hz;go_wp2_with fail;clear ez;have hsum:IntKind.i64.wrap (zl+el)=zl+el:=IntWalk.i64_in _ (by omega);have hsum0:0≤zl+el:=by omega
     refine aS (by kernel_rfl) (by kernel_rfl) ?_;refine sq 14 ?_;refine dq (p:=⟨bx,0,none⟩) (u:=.agg #[.int .i64 zo,.int .i64 (zl+el)]) (fun w'=>(w'.setCell ⟨bx,0,none⟩ (.int .i64 zo)).setCell ⟨bx,1,none⟩ (.int .i64 (zl+el))) rfl rfl (by kernel_rfl) rfl rfl rfl (fun w' hw=> ?_) (fun w' hw=> ?_)
     ·have hb6:=hw.at hbx5H.out (by simp);have c1:=ae hb6;have f1:=ay hb6;clear kx kz0 kz1 hsum;go_simp
     have hbx6:=aq (o:=1) (v:=.int .i64 (zl+el)) (aq (o:=0) (v:=.int .i64 zo) (hw.at hbx5H.out (by simp)));have hm6:=(((hm5H.out.ag hw).setCell (p:=⟨bx,0,none⟩) (.inr (by rw[hbx];exact Nat.le_refl _)) (.int .i64 zo)).setCell (p:=⟨bx,1,none⟩) (.inr (by rw[hbx];exact Nat.le_refl _)) (.int .i64 (zl+el)));generalize(w'.setCell ⟨bx,0,none⟩ (.int .i64 zo)).setCell ⟨bx,1,none⟩ (.int .i64 (zl+el))=w6 at*;have hbx6H:Hid (w6.heap[bx]? =some (.cells #[.int .i64 zo,.int .i64 (zl+el)] 104 (0,0))):=zh hbx6;have hm6H:=zh hm6;clear hw hbx6 hm6 kx kz0 kz1 hsum hsum0 hm5H hbx5H;go_wp2_with fail;obtain⟨hg,c0,c1⟩:=hycH.out w6 hm6H.out;have kc0:=GW.bR (S:=[]) c0 hg (by simp);have kc1:=GW.bR (S:=[]) c1 hg (by simp)
     try simp only at kc0 kc1
     clear c0 c1 hg;have kx:=GW.cells (S:=[]) hbx6H.out (by simp);refine aS (by kernel_rfl) (by kernel_rfl) ?_;refine sq 11 ?_;refine b7 168 _ (.int .i64 (zo+(zl+el))) rfl Tryz.call168 rfl rfl (fun w' _=>dV (zo) (zl+el) (by omega) (by omega) w') ?_;simp only[Act.put,sA,sB,sC];by_cases hyb:yo=eo+el
     ·have ey:(yo==zo+(zl+el))=true:=by have:=hzH.out;simp;omega
      refine sq 2 ?_;refine au fun w11 hm11=> ?_
      have hbx11:=hm11.at (hbx6H.out) (by simp);have hm11H:=zh ((hm6H.out).ag hm11);have hbx11H:=zh hbx11;clear kx kc0 kc1 hm11 hbx11;go_wp2_with fail;clear ey;obtain⟨hg,c0,c1⟩:=hycH.out w11 hm11H.out;have kc0:=GW.bR (S:=[]) c0 hg (by simp);have kc1:=GW.bR (S:=[]) c1 hg (by simp)
      try simp only at kc0 kc1
      clear c0 c1 hg;have kx:=GW.cells (S:=[]) hbx11H.out (by simp);have hsum:IntKind.i64.wrap ((zl+el)+yl)=(zl+el)+yl:=IntWalk.i64_in _ (by omega);have hsum0:0≤(zl+el)+yl:=by omega
      refine aS (by kernel_rfl) (by kernel_rfl) ?_;refine sq 9 ?_;refine dq (p:=⟨bx,1,none⟩) (u:=.int .i64 ((zl+el)+yl)) (fun w'=>w'.setCell ⟨bx,1,none⟩ (.int .i64 ((zl+el)+yl))) rfl rfl (by kernel_rfl) rfl rfl rfl (fun w' hw=> ?_) (fun w' hw=> ?_)
      ·have hb6:=hw.at hbx11H.out (by simp);have c1:=ae hb6;have f1:=ay hb6;clear kx kc0 kc1 hsum;go_simp
      have hbx12:=aq (o:=1) (v:=.int .i64 (zl+el+yl)) (hw.at hbx11H.out (by simp));have hm12:=((hm11H.out.ag hw).setCell (p:=⟨bx,1,none⟩) (.inr (by rw[hbx];exact Nat.le_refl _)) (.int .i64 (zl+el+yl)));generalize w'.setCell ⟨bx,1,none⟩ (.int .i64 (zl+el+yl))=W at*;have hbW:Hid (W.heap[bx]? =some (.cells #[.int .i64 (zo),.int .i64 (zl+el+yl)] 104 (0,0))):=zh hbx12;have hmW:=zh hm12;clear hw hbx12 hm12 kx kc0 kc1 hsum hsum0 hm11H hbx11H;go_wp2_with fail;have hL:=zh (hlaw.out (k+1) (k) (k+1+1) (zo,zl+el+yl) (zo,zl+el) hcutH.out (.inl ⟨by simpa using hksH.out,by omega,by simp[hzdH.out];exact hzH.out,by omega,by simp[hzdH.out]⟩) (.inl ⟨hmsH.out,by rw[hydH.out];exact hyb,rfl,by rw[hydH.out]⟩));have kx:=GW.cells (S:=[]) hbW.out (by simp);by_cases hce:cap=k+1+1
      ·subst hce;obtain rfl:n=k+1+1:=by omega
       refine aS (by kernel_rfl) (by kernel_rfl) ?_;refine sq 4 ?_;refine aO (fun s1=>.slice (some ⟨s1,0,none⟩) 1 1) (.cells #[.int .i64 (zo),.int .i64 (zl+el+yl)] 104 (0,0)) (fun s1 w'=>Mod [] W w'∧w'.heap[s1]? =some (.cells #[.int .i64 (zo),.int .i64 (zl+el+yl)] 104 (0,0))) (by intro s s' h;simpa using h) rfl rfl (fun w' hw=> ?_) (fun w' hw=>⟨hw.alloc _,an _ _⟩) (fun s1 w' h=>ah.of h.1) (fun s1=> ?_)
       ·kernel_rfl
       refine sq 3 ?_;refine aO (fun s2=>.slice (some ⟨s2,0,none⟩) 3 3) (.cells #[.slice (some ⟨g,0,none⟩) (k) (k+1+1),.slice (some ⟨s1,0,none⟩) 1 1,(.slice (some ⟨g,0,none⟩) ((k+1+1)-(k+1+1)) ((k+1+1)-(k+1+1)))] 120 (0,0)) (fun s2 w'=>(Mod [] W w'∧w'.heap[s1]? =some (.cells #[.int .i64 (zo),.int .i64 (zl+el+yl)] 104 (0,0)))∧w'.heap[s2]? =some (.cells #[.slice (some ⟨g,0,none⟩) (k) (k+1+1),.slice (some ⟨s1,0,none⟩) 1 1,(.slice (some ⟨g,0,none⟩) ((k+1+1)-(k+1+1)) ((k+1+1)-(k+1+1)))] 120 (0,0))) (by intro s s' h;simpa using h) rfl rfl (fun w' hw=> ?_) (fun w' hw=>⟨⟨hw.1.alloc _,aI hw.2⟩,an _ _⟩) (fun s w' h=>ah.of h.1.1) (fun s2=> ?_)
       ·kernel_rfl
       simp only[Act.put,sA,sB,sC];refine cD 203 _ (fun u=>∃a m c,u=.slice a m c) (fun u w'=>Mod [] W w'∧w'.ownsRow W.heap.size 104 2 u (cn s (k) (k+1+1) (zo,zl+el+yl)).length (ax (cn s (k) (k+1+1) (zo,zl+el+yl)))) rfl Tryz.call203 rfl rfl ⟨_,none,0,0,rfl⟩ (fun w' hw=> ?_) (fun u w' h=>ah.of h.1) (fun u hu=> ?_)
       ·have hF:=hH.out.mod (hmW.out.ag hw.1.1);have hF1:aw w' (.slice (some ⟨g,0,none⟩) (k) (k+1+1)) (s.take (k)):=hZ hF hnH.out (by omega);have hF2:aw w' (.slice (some ⟨s1,0,none⟩) 1 1) [(zo,zl+el+yl)]:=Ty.fG hw.1.2;have hF3:aw w' (.slice (some ⟨g,0,none⟩) ((k+1+1)-(k+1+1)) ((k+1+1)-(k+1+1))) (s.drop (k+1+1)):=hU hF hnH.out (by omega) (0) ((k+1+1)-(k+1+1)) ((k+1+1)-(k+1+1)) (by omega) (by omega);refine(gI hw.2 hF1 hF2 hF3 (by simp) (by first|(simp;done)|(simp;omega)) (by simp) (by simp;rw[←hnH.out];omega)).mono ?_;rintro r w'' ⟨u,g1,g2,g3⟩;exact⟨u,g1,cx g2,hw.1.1.ag g3,aE g2 hw.1.1.size⟩
       obtain⟨ua,ul,uc,rfl⟩:=hu;refine sq 2 ?_;refine au fun w9 hw9=> ?_
       have hw9H:=zh hw9;clear kx hw9;go_wp2_with fail;go_ret2;exact⟨_,_,rfl,hL.out.1,hL.out.2.1,hL.out.2.2,aE hw9H.out.2 (by rw[hbx];have:=hmW.out.size;omega),hmW.out.ag hw9H.out.1⟩
      ·refine aS (by kernel_rfl) (by kernel_rfl) ?_;refine sq 4 ?_;refine aO (fun s1=>.slice (some ⟨s1,0,none⟩) 1 1) (.cells #[.int .i64 (zo),.int .i64 (zl+el+yl)] 104 (0,0)) (fun s1 w'=>Mod [] W w'∧w'.heap[s1]? =some (.cells #[.int .i64 (zo),.int .i64 (zl+el+yl)] 104 (0,0))) (by intro s s' h;simpa using h) rfl rfl (fun w' hw=> ?_) (fun w' hw=>⟨hw.alloc _,an _ _⟩) (fun s1 w' h=>ah.of h.1) (fun s1=> ?_)
       ·kernel_rfl
       refine sq 3 ?_;refine aO (fun s2=>.slice (some ⟨s2,0,none⟩) 3 3) (.cells #[.slice (some ⟨g,0,none⟩) (k) (cap),.slice (some ⟨s1,0,none⟩) 1 1,(.slice (some ⟨g,(k+1+1)*2,none⟩) (n-(k+1+1)) (cap-(k+1+1)))] 120 (0,0)) (fun s2 w'=>(Mod [] W w'∧w'.heap[s1]? =some (.cells #[.int .i64 (zo),.int .i64 (zl+el+yl)] 104 (0,0)))∧w'.heap[s2]? =some (.cells #[.slice (some ⟨g,0,none⟩) (k) (cap),.slice (some ⟨s1,0,none⟩) 1 1,(.slice (some ⟨g,(k+1+1)*2,none⟩) (n-(k+1+1)) (cap-(k+1+1)))] 120 (0,0))) (by intro s s' h;simpa using h) rfl rfl (fun w' hw=> ?_) (fun w' hw=>⟨⟨hw.1.alloc _,aI hw.2⟩,an _ _⟩) (fun s w' h=>ah.of h.1.1) (fun s2=> ?_)
       ·kernel_rfl
       simp only[Act.put,sA,sB,sC];refine cD 203 _ (fun u=>∃a m c,u=.slice a m c) (fun u w'=>Mod [] W w'∧w'.ownsRow W.heap.size 104 2 u (cn s (k) (k+1+1) (zo,zl+el+yl)).length (ax (cn s (k) (k+1+1) (zo,zl+el+yl)))) rfl Tryz.call203 rfl rfl ⟨_,none,0,0,rfl⟩ (fun w' hw=> ?_) (fun u w' h=>ah.of h.1) (fun u hu=> ?_)
       ·have hF:=hH.out.mod (hmW.out.ag hw.1.1);have hF1:aw w' (.slice (some ⟨g,0,none⟩) (k) (cap)) (s.take (k)):=hZ hF hnH.out (by omega);have hF2:aw w' (.slice (some ⟨s1,0,none⟩) 1 1) [(zo,zl+el+yl)]:=Ty.fG hw.1.2;have hF3:aw w' (.slice (some ⟨g,(k+1+1)*2,none⟩) (n-(k+1+1)) (cap-(k+1+1))) (s.drop (k+1+1)):=hU hF hnH.out (by omega) ((k+1+1)*2) (cap-(k+1+1)) (n-(k+1+1)) (by omega) (by omega);refine(gI hw.2 hF1 hF2 hF3 (by simp) (by first|(simp;done)|(simp;omega)) (by simp) (by simp;rw[←hnH.out];omega)).mono ?_;rintro r w'' ⟨u,g1,g2,g3⟩;exact⟨u,g1,cx g2,hw.1.1.ag g3,aE g2 hw.1.1.size⟩
       obtain⟨ua,ul,uc,rfl⟩:=hu;refine sq 2 ?_;refine au fun w9 hw9=> ?_
       have hw9H:=zh hw9;clear kx hw9;go_wp2_with fail;go_ret2;exact⟨_,_,rfl,hL.out.1,hL.out.2.1,hL.out.2.2,aE hw9H.out.2 (by rw[hbx];have:=hmW.out.size;omega),hmW.out.ag hw9H.out.1⟩
     ·have ey:(yo==zo+(zl+el))=false:=by have:=hzH.out;simp;omega
      refine sq 2 ?_;refine au fun W hm11=> ?_
      have hbW:=zh (hm11.at (hbx6H.out) (by simp));have hmW:=zh ((hm6H.out).ag hm11);clear kx kc0 kc1 hm11;go_wp2_with fail;clear ey;have hL:=zh (hlaw.out (k+1) (k) (k+1) (zo,zl+el) (zo,zl+el) hcutH.out (.inl ⟨by simpa using hksH.out,by omega,by simp[hzdH.out];exact hzH.out,by omega,by simp[hzdH.out]⟩) (.inr ⟨fun h=>by rw[hydH.out];exact hyb,rfl,rfl⟩));have kx:=GW.cells (S:=[]) hbW.out (by simp);have hce:¬cap=k+1:=by omega
      refine aS (by kernel_rfl) (by kernel_rfl) ?_;refine sq 4 ?_;refine aO (fun s1=>.slice (some ⟨s1,0,none⟩) 1 1) (.cells #[.int .i64 (zo),.int .i64 (zl+el)] 104 (0,0)) (fun s1 w'=>Mod [] W w'∧w'.heap[s1]? =some (.cells #[.int .i64 (zo),.int .i64 (zl+el)] 104 (0,0))) (by intro s s' h;simpa using h) rfl rfl (fun w' hw=> ?_) (fun w' hw=>⟨hw.alloc _,an _ _⟩) (fun s1 w' h=>ah.of h.1) (fun s1=> ?_)
      ·kernel_rfl
      refine sq 3 ?_;refine aO (fun s2=>.slice (some ⟨s2,0,none⟩) 3 3) (.cells #[.slice (some ⟨g,0,none⟩) (k) (cap),.slice (some ⟨s1,0,none⟩) 1 1,(.slice (some ⟨g,(k+1)*2,none⟩) (n-(k+1)) (cap-(k+1)))] 120 (0,0)) (fun s2 w'=>(Mod [] W w'∧w'.heap[s1]? =some (.cells #[.int .i64 (zo),.int .i64 (zl+el)] 104 (0,0)))∧w'.heap[s2]? =some (.cells #[.slice (some ⟨g,0,none⟩) (k) (cap),.slice (some ⟨s1,0,none⟩) 1 1,(.slice (some ⟨g,(k+1)*2,none⟩) (n-(k+1)) (cap-(k+1)))] 120 (0,0))) (by intro s s' h;simpa using h) rfl rfl (fun w' hw=> ?_) (fun w' hw=>⟨⟨hw.1.alloc _,aI hw.2⟩,an _ _⟩) (fun s w' h=>ah.of h.1.1) (fun s2=> ?_)
      ·kernel_rfl
      simp only[Act.put,sA,sB,sC];refine cD 203 _ (fun u=>∃a m c,u=.slice a m c) (fun u w'=>Mod [] W w'∧w'.ownsRow W.heap.size 104 2 u (cn s (k) (k+1) (zo,zl+el)).length (ax (cn s (k) (k+1) (zo,zl+el)))) rfl Tryz.call203 rfl rfl ⟨_,none,0,0,rfl⟩ (fun w' hw=> ?_) (fun u w' h=>ah.of h.1) (fun u hu=> ?_)
      ·have hF:=hH.out.mod (hmW.out.ag hw.1.1);have hF1:aw w' (.slice (some ⟨g,0,none⟩) (k) (cap)) (s.take (k)):=hZ hF hnH.out (by omega);have hF2:aw w' (.slice (some ⟨s1,0,none⟩) 1 1) [(zo,zl+el)]:=Ty.fG hw.1.2;have hF3:aw w' (.slice (some ⟨g,(k+1)*2,none⟩) (n-(k+1)) (cap-(k+1))) (s.drop (k+1)):=hU hF hnH.out (by omega) ((k+1)*2) (cap-(k+1)) (n-(k+1)) (by omega) (by omega);refine(gI hw.2 hF1 hF2 hF3 (by simp) (by first|(simp;done)|(simp;omega)) (by simp) (by simp;rw[←hnH.out];omega)).mono ?_;rintro r w'' ⟨u,g1,g2,g3⟩;exact⟨u,g1,cx g2,hw.1.1.ag g3,aE g2 hw.1.1.size⟩
      obtain⟨ua,ul,uc,rfl⟩:=hu;refine sq 2 ?_;refine au fun w9 hw9=> ?_
      have hw9H:=zh hw9;clear kx hw9;go_wp2_with fail;go_ret2;exact⟨_,_,rfl,hL.out.1,hL.out.2.1,hL.out.2.2,aE hw9H.out.2 (by rw[hbx];have:=hmW.out.size;omega),hmW.out.ag hw9H.out.1⟩
    ·have ez:(zo+zl==eo)=false:=by simpa using hz
     have hzH:=zh hz;refine sq 4 ?_;refine au fun w6 hm6=> ?_
     have hbx6H:=zh (hm6.at hbx4H.out (by simp));have hm6H:=zh (hm4H.out.ag hm6);clear kx kz0 kz1 hm6 hm4H hbx4H hz;go_wp2_with fail;clear ez;obtain⟨hg,c0,c1⟩:=hycH.out w6 hm6H.out;have kc0:=GW.bR (S:=[]) c0 hg (by simp);have kc1:=GW.bR (S:=[]) c1 hg (by simp)
     try simp only at kc0 kc1
     clear c0 c1 hg;have kx:=GW.cells (S:=[]) hbx6H.out (by simp);refine aS (by kernel_rfl) (by kernel_rfl) ?_;refine sq 11 ?_;refine b7 168 _ (.int .i64 (eo+(el))) rfl Tryz.call168 rfl rfl (fun w' _=>dV (eo) (el) (by omega) (by omega) w') ?_;simp only[Act.put,sA,sB,sC];by_cases hyb:yo=eo+el
     ·have ey:(yo==eo+(el))=true:=by skip;simp;omega
      refine sq 2 ?_;refine au fun w11 hm11=> ?_
      have hbx11:=hm11.at (hbx6H.out) (by simp);have hm11H:=zh ((hm6H.out).ag hm11);have hbx11H:=zh hbx11;clear kx kc0 kc1 hm11 hbx11;go_wp2_with fail;clear ey;obtain⟨hg,c0,c1⟩:=hycH.out w11 hm11H.out;have kc0:=GW.bR (S:=[]) c0 hg (by simp);have kc1:=GW.bR (S:=[]) c1 hg (by simp)
      try simp only at kc0 kc1
      clear c0 c1 hg;have kx:=GW.cells (S:=[]) hbx11H.out (by simp);have hsum:IntKind.i64.wrap ((el)+yl)=(el)+yl:=IntWalk.i64_in _ (by omega);have hsum0:0≤(el)+yl:=by omega
      refine aS (by kernel_rfl) (by kernel_rfl) ?_;refine sq 9 ?_;refine dq (p:=⟨bx,1,none⟩) (u:=.int .i64 ((el)+yl)) (fun w'=>w'.setCell ⟨bx,1,none⟩ (.int .i64 ((el)+yl))) rfl rfl (by kernel_rfl) rfl rfl rfl (fun w' hw=> ?_) (fun w' hw=> ?_)
      ·have hb6:=hw.at hbx11H.out (by simp);have c1:=ae hb6;have f1:=ay hb6;clear kx kc0 kc1 hsum;go_simp
      have hbx12:=aq (o:=1) (v:=.int .i64 (el+yl)) (hw.at hbx11H.out (by simp));have hm12:=((hm11H.out.ag hw).setCell (p:=⟨bx,1,none⟩) (.inr (by rw[hbx];exact Nat.le_refl _)) (.int .i64 (el+yl)));generalize w'.setCell ⟨bx,1,none⟩ (.int .i64 (el+yl))=W at*;have hbW:Hid (W.heap[bx]? =some (.cells #[.int .i64 (eo),.int .i64 (el+yl)] 104 (0,0))):=zh hbx12;have hmW:=zh hm12;clear hw hbx12 hm12 kx kc0 kc1 hsum hsum0 hm11H hbx11H;go_wp2_with fail;have hL:=zh (hlaw.out (k+1) (k+1) (k+1+1) (eo,el+yl) (eo,el) hcutH.out (.inr ⟨fun _ _=>by simp[hzdH.out];exact hzH.out,rfl,rfl⟩) (.inl ⟨hmsH.out,by rw[hydH.out];exact hyb,rfl,by rw[hydH.out]⟩));have kx:=GW.cells (S:=[]) hbW.out (by simp);by_cases hce:cap=k+1+1
      ·subst hce;obtain rfl:n=k+1+1:=by omega
       refine aS (by kernel_rfl) (by kernel_rfl) ?_;refine sq 4 ?_;refine aO (fun s1=>.slice (some ⟨s1,0,none⟩) 1 1) (.cells #[.int .i64 (eo),.int .i64 (el+yl)] 104 (0,0)) (fun s1 w'=>Mod [] W w'∧w'.heap[s1]? =some (.cells #[.int .i64 (eo),.int .i64 (el+yl)] 104 (0,0))) (by intro s s' h;simpa using h) rfl rfl (fun w' hw=> ?_) (fun w' hw=>⟨hw.alloc _,an _ _⟩) (fun s1 w' h=>ah.of h.1) (fun s1=> ?_)
       ·kernel_rfl
       refine sq 3 ?_;refine aO (fun s2=>.slice (some ⟨s2,0,none⟩) 3 3) (.cells #[.slice (some ⟨g,0,none⟩) (k+1) (k+1+1),.slice (some ⟨s1,0,none⟩) 1 1,(.slice (some ⟨g,0,none⟩) ((k+1+1)-(k+1+1)) ((k+1+1)-(k+1+1)))] 120 (0,0)) (fun s2 w'=>(Mod [] W w'∧w'.heap[s1]? =some (.cells #[.int .i64 (eo),.int .i64 (el+yl)] 104 (0,0)))∧w'.heap[s2]? =some (.cells #[.slice (some ⟨g,0,none⟩) (k+1) (k+1+1),.slice (some ⟨s1,0,none⟩) 1 1,(.slice (some ⟨g,0,none⟩) ((k+1+1)-(k+1+1)) ((k+1+1)-(k+1+1)))] 120 (0,0))) (by intro s s' h;simpa using h) rfl rfl (fun w' hw=> ?_) (fun w' hw=>⟨⟨hw.1.alloc _,aI hw.2⟩,an _ _⟩) (fun s w' h=>ah.of h.1.1) (fun s2=> ?_)
       ·kernel_rfl
       simp only[Act.put,sA,sB,sC];refine cD 203 _ (fun u=>∃a m c,u=.slice a m c) (fun u w'=>Mod [] W w'∧w'.ownsRow W.heap.size 104 2 u (cn s (k+1) (k+1+1) (eo,el+yl)).length (ax (cn s (k+1) (k+1+1) (eo,el+yl)))) rfl Tryz.call203 rfl rfl ⟨_,none,0,0,rfl⟩ (fun w' hw=> ?_) (fun u w' h=>ah.of h.1) (fun u hu=> ?_)
       ·have hF:=hH.out.mod (hmW.out.ag hw.1.1);have hF1:aw w' (.slice (some ⟨g,0,none⟩) (k+1) (k+1+1)) (s.take (k+1)):=hZ hF hnH.out (by omega);have hF2:aw w' (.slice (some ⟨s1,0,none⟩) 1 1) [(eo,el+yl)]:=Ty.fG hw.1.2;have hF3:aw w' (.slice (some ⟨g,0,none⟩) ((k+1+1)-(k+1+1)) ((k+1+1)-(k+1+1))) (s.drop (k+1+1)):=hU hF hnH.out (by omega) (0) ((k+1+1)-(k+1+1)) ((k+1+1)-(k+1+1)) (by omega) (by omega);refine(gI hw.2 hF1 hF2 hF3 (by simp) (by first|(simp;done)|(simp;omega)) (by simp) (by simp;rw[←hnH.out];omega)).mono ?_;rintro r w'' ⟨u,g1,g2,g3⟩;exact⟨u,g1,cx g2,hw.1.1.ag g3,aE g2 hw.1.1.size⟩
       obtain⟨ua,ul,uc,rfl⟩:=hu;refine sq 2 ?_;refine au fun w9 hw9=> ?_
       have hw9H:=zh hw9;clear kx hw9;go_wp2_with fail;go_ret2;exact⟨_,_,rfl,hL.out.1,hL.out.2.1,hL.out.2.2,aE hw9H.out.2 (by rw[hbx];have:=hmW.out.size;omega),hmW.out.ag hw9H.out.1⟩
      ·refine aS (by kernel_rfl) (by kernel_rfl) ?_;refine sq 4 ?_;refine aO (fun s1=>.slice (some ⟨s1,0,none⟩) 1 1) (.cells #[.int .i64 (eo),.int .i64 (el+yl)] 104 (0,0)) (fun s1 w'=>Mod [] W w'∧w'.heap[s1]? =some (.cells #[.int .i64 (eo),.int .i64 (el+yl)] 104 (0,0))) (by intro s s' h;simpa using h) rfl rfl (fun w' hw=> ?_) (fun w' hw=>⟨hw.alloc _,an _ _⟩) (fun s1 w' h=>ah.of h.1) (fun s1=> ?_)
       ·kernel_rfl
       refine sq 3 ?_;refine aO (fun s2=>.slice (some ⟨s2,0,none⟩) 3 3) (.cells #[.slice (some ⟨g,0,none⟩) (k+1) (cap),.slice (some ⟨s1,0,none⟩) 1 1,(.slice (some ⟨g,(k+1+1)*2,none⟩) (n-(k+1+1)) (cap-(k+1+1)))] 120 (0,0)) (fun s2 w'=>(Mod [] W w'∧w'.heap[s1]? =some (.cells #[.int .i64 (eo),.int .i64 (el+yl)] 104 (0,0)))∧w'.heap[s2]? =some (.cells #[.slice (some ⟨g,0,none⟩) (k+1) (cap),.slice (some ⟨s1,0,none⟩) 1 1,(.slice (some ⟨g,(k+1+1)*2,none⟩) (n-(k+1+1)) (cap-(k+1+1)))] 120 (0,0))) (by intro s s' h;simpa using h) rfl rfl (fun w' hw=> ?_) (fun w' hw=>⟨⟨hw.1.alloc _,aI hw.2⟩,an _ _⟩) (fun s w' h=>ah.of h.1.1) (fun s2=> ?_)
       ·kernel_rfl
       simp only[Act.put,sA,sB,sC];refine cD 203 _ (fun u=>∃a m c,u=.slice a m c) (fun u w'=>Mod [] W w'∧w'.ownsRow W.heap.size 104 2 u (cn s (k+1) (k+1+1) (eo,el+yl)).length (ax (cn s (k+1) (k+1+1) (eo,el+yl)))) rfl Tryz.call203 rfl rfl ⟨_,none,0,0,rfl⟩ (fun w' hw=> ?_) (fun u w' h=>ah.of h.1) (fun u hu=> ?_)
       ·have hF:=hH.out.mod (hmW.out.ag hw.1.1);have hF1:aw w' (.slice (some ⟨g,0,none⟩) (k+1) (cap)) (s.take (k+1)):=hZ hF hnH.out (by omega);have hF2:aw w' (.slice (some ⟨s1,0,none⟩) 1 1) [(eo,el+yl)]:=Ty.fG hw.1.2;have hF3:aw w' (.slice (some ⟨g,(k+1+1)*2,none⟩) (n-(k+1+1)) (cap-(k+1+1))) (s.drop (k+1+1)):=hU hF hnH.out (by omega) ((k+1+1)*2) (cap-(k+1+1)) (n-(k+1+1)) (by omega) (by omega);refine(gI hw.2 hF1 hF2 hF3 (by simp) (by first|(simp;done)|(simp;omega)) (by simp) (by simp;rw[←hnH.out];omega)).mono ?_;rintro r w'' ⟨u,g1,g2,g3⟩;exact⟨u,g1,cx g2,hw.1.1.ag g3,aE g2 hw.1.1.size⟩
       obtain⟨ua,ul,uc,rfl⟩:=hu;refine sq 2 ?_;refine au fun w9 hw9=> ?_
       have hw9H:=zh hw9;clear kx hw9;go_wp2_with fail;go_ret2;exact⟨_,_,rfl,hL.out.1,hL.out.2.1,hL.out.2.2,aE hw9H.out.2 (by rw[hbx];have:=hmW.out.size;omega),hmW.out.ag hw9H.out.1⟩
     ·have ey:(yo==eo+(el))=false:=by skip;simp;omega
      refine sq 2 ?_;refine au fun W hm11=> ?_
      have hbW:=zh (hm11.at (hbx6H.out) (by simp));have hmW:=zh ((hm6H.out).ag hm11);clear kx kc0 kc1 hm11;go_wp2_with fail;clear ey;have hL:=zh (hlaw.out (k+1) (k+1) (k+1) (eo,el) (eo,el) hcutH.out (.inr ⟨fun _ _=>by simp[hzdH.out];exact hzH.out,rfl,rfl⟩) (.inr ⟨fun h=>by rw[hydH.out];exact hyb,rfl,rfl⟩));have kx:=GW.cells (S:=[]) hbW.out (by simp);have hce:¬cap=k+1:=by omega
      refine aS (by kernel_rfl) (by kernel_rfl) ?_;refine sq 4 ?_;refine aO (fun s1=>.slice (some ⟨s1,0,none⟩) 1 1) (.cells #[.int .i64 (eo),.int .i64 (el)] 104 (0,0)) (fun s1 w'=>Mod [] W w'∧w'.heap[s1]? =some (.cells #[.int .i64 (eo),.int .i64 (el)] 104 (0,0))) (by intro s s' h;simpa using h) rfl rfl (fun w' hw=> ?_) (fun w' hw=>⟨hw.alloc _,an _ _⟩) (fun s1 w' h=>ah.of h.1) (fun s1=> ?_)
      ·kernel_rfl
      refine sq 3 ?_;refine aO (fun s2=>.slice (some ⟨s2,0,none⟩) 3 3) (.cells #[.slice (some ⟨g,0,none⟩) (k+1) (cap),.slice (some ⟨s1,0,none⟩) 1 1,(.slice (some ⟨g,(k+1)*2,none⟩) (n-(k+1)) (cap-(k+1)))] 120 (0,0)) (fun s2 w'=>(Mod [] W w'∧w'.heap[s1]? =some (.cells #[.int .i64 (eo),.int .i64 (el)] 104 (0,0)))∧w'.heap[s2]? =some (.cells #[.slice (some ⟨g,0,none⟩) (k+1) (cap),.slice (some ⟨s1,0,none⟩) 1 1,(.slice (some ⟨g,(k+1)*2,none⟩) (n-(k+1)) (cap-(k+1)))] 120 (0,0))) (by intro s s' h;simpa using h) rfl rfl (fun w' hw=> ?_) (fun w' hw=>⟨⟨hw.1.alloc _,aI hw.2⟩,an _ _⟩) (fun s w' h=>ah.of h.1.1) (fun s2=> ?_)
      ·kernel_rfl
      simp only[Act.put,sA,sB,sC];refine cD 203 _ (fun u=>∃a m c,u=.slice a m c) (fun u w'=>Mod [] W w'∧w'.ownsRow W.heap.size 104 2 u (cn s (k+1) (k+1) (eo,el)).length (ax (cn s (k+1) (k+1) (eo,el)))) rfl Tryz.call203 rfl rfl ⟨_,none,0,0,rfl⟩ (fun w' hw=> ?_) (fun u w' h=>ah.of h.1) (fun u hu=> ?_)
      ·have hF:=hH.out.mod (hmW.out.ag hw.1.1);have hF1:aw w' (.slice (some ⟨g,0,none⟩) (k+1) (cap)) (s.take (k+1)):=hZ hF hnH.out (by omega);have hF2:aw w' (.slice (some ⟨s1,0,none⟩) 1 1) [(eo,el)]:=Ty.fG hw.1.2;have hF3:aw w' (.slice (some ⟨g,(k+1)*2,none⟩) (n-(k+1)) (cap-(k+1))) (s.drop (k+1)):=hU hF hnH.out (by omega) ((k+1)*2) (cap-(k+1)) (n-(k+1)) (by omega) (by omega);refine(gI hw.2 hF1 hF2 hF3 (by simp) (by first|(simp;done)|(simp;omega)) (by simp) (by simp;rw[←hnH.out];omega)).mono ?_;rintro r w'' ⟨u,g1,g2,g3⟩;exact⟨u,g1,cx g2,hw.1.1.ag g3,aE g2 hw.1.1.size⟩
      obtain⟨ua,ul,uc,rfl⟩:=hu;refine sq 2 ?_;refine au fun w9 hw9=> ?_
      have hw9H:=zh hw9;clear kx hw9;go_wp2_with fail;go_ret2;exact⟨_,_,rfl,hL.out.1,hL.out.2.1,hL.out.2.2,aE hw9H.out.2 (by rw[hbx];have:=hmW.out.size;omega),hmW.out.ag hw9H.out.1⟩
   ·obtain rfl:m=0:=by omega
    refine aS (by kernel_rfl) (by kernel_rfl) ?_;refine sq 8 ?_;refine iS rfl ?_;simp only[Act.put,sA,sB,sC];refine sq 4 ?_;refine au fun w6 hm6=> ?_
    have hbx6H:=zh (hm6.at hbx4H.out (by simp));have hm6H:=zh (hm4H.out.ag hm6);clear kx hm6 hm4H hbx4H;go_wp2_with fail;obtain⟨hg,c0,c1⟩:=hycH.out w6 hm6H.out;have kc0:=GW.bR (S:=[]) c0 hg (by simp);have kc1:=GW.bR (S:=[]) c1 hg (by simp)
    try simp only at kc0 kc1
    clear c0 c1 hg;have kx:=GW.cells (S:=[]) hbx6H.out (by simp);refine aS (by kernel_rfl) (by kernel_rfl) ?_;refine sq 11 ?_;refine b7 168 _ (.int .i64 (eo+(el))) rfl Tryz.call168 rfl rfl (fun w' _=>dV (eo) (el) (by omega) (by omega) w') ?_;simp only[Act.put,sA,sB,sC];by_cases hyb:yo=eo+el
    ·have ey:(yo==eo+(el))=true:=by skip;simp;omega
     refine sq 2 ?_;refine au fun w11 hm11=> ?_
     have hbx11:=hm11.at (hbx6H.out) (by simp);have hm11H:=zh ((hm6H.out).ag hm11);have hbx11H:=zh hbx11;clear kx kc0 kc1 hm11 hbx11;go_wp2_with fail;clear ey;obtain⟨hg,c0,c1⟩:=hycH.out w11 hm11H.out;have kc0:=GW.bR (S:=[]) c0 hg (by simp);have kc1:=GW.bR (S:=[]) c1 hg (by simp)
     try simp only at kc0 kc1
     clear c0 c1 hg;have kx:=GW.cells (S:=[]) hbx11H.out (by simp);have hsum:IntKind.i64.wrap ((el)+yl)=(el)+yl:=IntWalk.i64_in _ (by omega);have hsum0:0≤(el)+yl:=by omega
     refine aS (by kernel_rfl) (by kernel_rfl) ?_;refine sq 9 ?_;refine dq (p:=⟨bx,1,none⟩) (u:=.int .i64 ((el)+yl)) (fun w'=>w'.setCell ⟨bx,1,none⟩ (.int .i64 ((el)+yl))) rfl rfl (by kernel_rfl) rfl rfl rfl (fun w' hw=> ?_) (fun w' hw=> ?_)
     ·have hb6:=hw.at hbx11H.out (by simp);have c1:=ae hb6;have f1:=ay hb6;clear kx kc0 kc1 hsum;go_simp
     have hbx12:=aq (o:=1) (v:=.int .i64 (el+yl)) (hw.at hbx11H.out (by simp));have hm12:=((hm11H.out.ag hw).setCell (p:=⟨bx,1,none⟩) (.inr (by rw[hbx];exact Nat.le_refl _)) (.int .i64 (el+yl)));generalize w'.setCell ⟨bx,1,none⟩ (.int .i64 (el+yl))=W at*;have hbW:Hid (W.heap[bx]? =some (.cells #[.int .i64 (eo),.int .i64 (el+yl)] 104 (0,0))):=zh hbx12;have hmW:=zh hm12;clear hw hbx12 hm12 kx kc0 kc1 hsum hsum0 hm11H hbx11H;go_wp2_with fail;have hL:=zh (hlaw.out (0) (0) (0+1) (eo,el+yl) (eo,el) hcutH.out (.inr ⟨fun _ h=>absurd h (by omega),rfl,rfl⟩) (.inl ⟨hmsH.out,by rw[hydH.out];exact hyb,rfl,by rw[hydH.out]⟩));have kx:=GW.cells (S:=[]) hbW.out (by simp);by_cases hce:cap=0+1
     ·subst hce;obtain rfl:n=0+1:=by omega
      refine aS (by kernel_rfl) (by kernel_rfl) ?_;refine sq 4 ?_;refine aO (fun s1=>.slice (some ⟨s1,0,none⟩) 1 1) (.cells #[.int .i64 (eo),.int .i64 (el+yl)] 104 (0,0)) (fun s1 w'=>Mod [] W w'∧w'.heap[s1]? =some (.cells #[.int .i64 (eo),.int .i64 (el+yl)] 104 (0,0))) (by intro s s' h;simpa using h) rfl rfl (fun w' hw=> ?_) (fun w' hw=>⟨hw.alloc _,an _ _⟩) (fun s1 w' h=>ah.of h.1) (fun s1=> ?_)
      ·kernel_rfl
      refine sq 3 ?_;refine aO (fun s2=>.slice (some ⟨s2,0,none⟩) 3 3) (.cells #[.slice (some ⟨g,0,none⟩) (0) (0+1),.slice (some ⟨s1,0,none⟩) 1 1,(.slice (some ⟨g,0,none⟩) ((0+1)-(0+1)) ((0+1)-(0+1)))] 120 (0,0)) (fun s2 w'=>(Mod [] W w'∧w'.heap[s1]? =some (.cells #[.int .i64 (eo),.int .i64 (el+yl)] 104 (0,0)))∧w'.heap[s2]? =some (.cells #[.slice (some ⟨g,0,none⟩) (0) (0+1),.slice (some ⟨s1,0,none⟩) 1 1,(.slice (some ⟨g,0,none⟩) ((0+1)-(0+1)) ((0+1)-(0+1)))] 120 (0,0))) (by intro s s' h;simpa using h) rfl rfl (fun w' hw=> ?_) (fun w' hw=>⟨⟨hw.1.alloc _,aI hw.2⟩,an _ _⟩) (fun s w' h=>ah.of h.1.1) (fun s2=> ?_)
      ·kernel_rfl
      simp only[Act.put,sA,sB,sC];refine cD 203 _ (fun u=>∃a m c,u=.slice a m c) (fun u w'=>Mod [] W w'∧w'.ownsRow W.heap.size 104 2 u (cn s (0) (0+1) (eo,el+yl)).length (ax (cn s (0) (0+1) (eo,el+yl)))) rfl Tryz.call203 rfl rfl ⟨_,none,0,0,rfl⟩ (fun w' hw=> ?_) (fun u w' h=>ah.of h.1) (fun u hu=> ?_)
      ·have hF:=hH.out.mod (hmW.out.ag hw.1.1);have hF1:aw w' (.slice (some ⟨g,0,none⟩) (0) (0+1)) (s.take (0)):=hZ hF hnH.out (by omega);have hF2:aw w' (.slice (some ⟨s1,0,none⟩) 1 1) [(eo,el+yl)]:=Ty.fG hw.1.2;have hF3:aw w' (.slice (some ⟨g,0,none⟩) ((0+1)-(0+1)) ((0+1)-(0+1))) (s.drop (0+1)):=hU hF hnH.out (by omega) (0) ((0+1)-(0+1)) ((0+1)-(0+1)) (by omega) (by omega);refine(gI hw.2 hF1 hF2 hF3 (by simp) (by first|(simp;done)|(simp;omega)) (by simp) (by simp;rw[←hnH.out];omega)).mono ?_;rintro r w'' ⟨u,g1,g2,g3⟩;exact⟨u,g1,cx g2,hw.1.1.ag g3,aE g2 hw.1.1.size⟩
      obtain⟨ua,ul,uc,rfl⟩:=hu;refine sq 2 ?_;refine au fun w9 hw9=> ?_
      have hw9H:=zh hw9;clear kx hw9;go_wp2_with fail;go_ret2;exact⟨_,_,rfl,hL.out.1,hL.out.2.1,hL.out.2.2,aE hw9H.out.2 (by rw[hbx];have:=hmW.out.size;omega),hmW.out.ag hw9H.out.1⟩
     ·refine aS (by kernel_rfl) (by kernel_rfl) ?_;refine sq 4 ?_;refine aO (fun s1=>.slice (some ⟨s1,0,none⟩) 1 1) (.cells #[.int .i64 (eo),.int .i64 (el+yl)] 104 (0,0)) (fun s1 w'=>Mod [] W w'∧w'.heap[s1]? =some (.cells #[.int .i64 (eo),.int .i64 (el+yl)] 104 (0,0))) (by intro s s' h;simpa using h) rfl rfl (fun w' hw=> ?_) (fun w' hw=>⟨hw.alloc _,an _ _⟩) (fun s1 w' h=>ah.of h.1) (fun s1=> ?_)
      ·kernel_rfl
      refine sq 3 ?_;refine aO (fun s2=>.slice (some ⟨s2,0,none⟩) 3 3) (.cells #[.slice (some ⟨g,0,none⟩) (0) (cap),.slice (some ⟨s1,0,none⟩) 1 1,(.slice (some ⟨g,(0+1)*2,none⟩) (n-(0+1)) (cap-(0+1)))] 120 (0,0)) (fun s2 w'=>(Mod [] W w'∧w'.heap[s1]? =some (.cells #[.int .i64 (eo),.int .i64 (el+yl)] 104 (0,0)))∧w'.heap[s2]? =some (.cells #[.slice (some ⟨g,0,none⟩) (0) (cap),.slice (some ⟨s1,0,none⟩) 1 1,(.slice (some ⟨g,(0+1)*2,none⟩) (n-(0+1)) (cap-(0+1)))] 120 (0,0))) (by intro s s' h;simpa using h) rfl rfl (fun w' hw=> ?_) (fun w' hw=>⟨⟨hw.1.alloc _,aI hw.2⟩,an _ _⟩) (fun s w' h=>ah.of h.1.1) (fun s2=> ?_)
      ·kernel_rfl
      simp only[Act.put,sA,sB,sC];refine cD 203 _ (fun u=>∃a m c,u=.slice a m c) (fun u w'=>Mod [] W w'∧w'.ownsRow W.heap.size 104 2 u (cn s (0) (0+1) (eo,el+yl)).length (ax (cn s (0) (0+1) (eo,el+yl)))) rfl Tryz.call203 rfl rfl ⟨_,none,0,0,rfl⟩ (fun w' hw=> ?_) (fun u w' h=>ah.of h.1) (fun u hu=> ?_)
      ·have hF:=hH.out.mod (hmW.out.ag hw.1.1);have hF1:aw w' (.slice (some ⟨g,0,none⟩) (0) (cap)) (s.take (0)):=hZ hF hnH.out (by omega);have hF2:aw w' (.slice (some ⟨s1,0,none⟩) 1 1) [(eo,el+yl)]:=Ty.fG hw.1.2;have hF3:aw w' (.slice (some ⟨g,(0+1)*2,none⟩) (n-(0+1)) (cap-(0+1))) (s.drop (0+1)):=hU hF hnH.out (by omega) ((0+1)*2) (cap-(0+1)) (n-(0+1)) (by omega) (by omega);refine(gI hw.2 hF1 hF2 hF3 (by simp) (by first|(simp;done)|(simp;omega)) (by simp) (by simp;rw[←hnH.out];omega)).mono ?_;rintro r w'' ⟨u,g1,g2,g3⟩;exact⟨u,g1,cx g2,hw.1.1.ag g3,aE g2 hw.1.1.size⟩
      obtain⟨ua,ul,uc,rfl⟩:=hu;refine sq 2 ?_;refine au fun w9 hw9=> ?_
      have hw9H:=zh hw9;clear kx hw9;go_wp2_with fail;go_ret2;exact⟨_,_,rfl,hL.out.1,hL.out.2.1,hL.out.2.2,aE hw9H.out.2 (by rw[hbx];have:=hmW.out.size;omega),hmW.out.ag hw9H.out.1⟩
    ·have ey:(yo==eo+(el))=false:=by skip;simp;omega
     refine sq 2 ?_;refine au fun W hm11=> ?_
     have hbW:=zh (hm11.at (hbx6H.out) (by simp));have hmW:=zh ((hm6H.out).ag hm11);clear kx kc0 kc1 hm11;go_wp2_with fail;clear ey;have hL:=zh (hlaw.out (0) (0) (0) (eo,el) (eo,el) hcutH.out (.inr ⟨fun _ h=>absurd h (by omega),rfl,rfl⟩) (.inr ⟨fun h=>by rw[hydH.out];exact hyb,rfl,rfl⟩));have kx:=GW.cells (S:=[]) hbW.out (by simp);have hce:¬cap=0:=by omega
     refine aS (by kernel_rfl) (by kernel_rfl) ?_;refine sq 4 ?_;refine aO (fun s1=>.slice (some ⟨s1,0,none⟩) 1 1) (.cells #[.int .i64 (eo),.int .i64 (el)] 104 (0,0)) (fun s1 w'=>Mod [] W w'∧w'.heap[s1]? =some (.cells #[.int .i64 (eo),.int .i64 (el)] 104 (0,0))) (by intro s s' h;simpa using h) rfl rfl (fun w' hw=> ?_) (fun w' hw=>⟨hw.alloc _,an _ _⟩) (fun s1 w' h=>ah.of h.1) (fun s1=> ?_)
     ·kernel_rfl
     refine sq 3 ?_;refine aO (fun s2=>.slice (some ⟨s2,0,none⟩) 3 3) (.cells #[.slice (some ⟨g,0,none⟩) (0) (cap),.slice (some ⟨s1,0,none⟩) 1 1,(.slice (some ⟨g,(0)*2,none⟩) (n-(0)) (cap-(0)))] 120 (0,0)) (fun s2 w'=>(Mod [] W w'∧w'.heap[s1]? =some (.cells #[.int .i64 (eo),.int .i64 (el)] 104 (0,0)))∧w'.heap[s2]? =some (.cells #[.slice (some ⟨g,0,none⟩) (0) (cap),.slice (some ⟨s1,0,none⟩) 1 1,(.slice (some ⟨g,(0)*2,none⟩) (n-(0)) (cap-(0)))] 120 (0,0))) (by intro s s' h;simpa using h) rfl rfl (fun w' hw=> ?_) (fun w' hw=>⟨⟨hw.1.alloc _,aI hw.2⟩,an _ _⟩) (fun s w' h=>ah.of h.1.1) (fun s2=> ?_)
     ·kernel_rfl
     simp only[Act.put,sA,sB,sC];refine cD 203 _ (fun u=>∃a m c,u=.slice a m c) (fun u w'=>Mod [] W w'∧w'.ownsRow W.heap.size 104 2 u (cn s (0) (0) (eo,el)).length (ax (cn s (0) (0) (eo,el)))) rfl Tryz.call203 rfl rfl ⟨_,none,0,0,rfl⟩ (fun w' hw=> ?_) (fun u w' h=>ah.of h.1) (fun u hu=> ?_)
     ·have hF:=hH.out.mod (hmW.out.ag hw.1.1);have hF1:aw w' (.slice (some ⟨g,0,none⟩) (0) (cap)) (s.take (0)):=hZ hF hnH.out (by omega);have hF2:aw w' (.slice (some ⟨s1,0,none⟩) 1 1) [(eo,el)]:=Ty.fG hw.1.2;have hF3:aw w' (.slice (some ⟨g,(0)*2,none⟩) (n-(0)) (cap-(0))) (s.drop (0)):=hU hF hnH.out (by omega) ((0)*2) (cap-(0)) (n-(0)) (by omega) (by omega);refine(gI hw.2 hF1 hF2 hF3 (by simp) (by first|(simp;done)|(simp;omega)) (by simp) (by simp;rw[←hnH.out];omega)).mono ?_;rintro r w'' ⟨u,g1,g2,g3⟩;exact⟨u,g1,cx g2,hw.1.1.ag g3,aE g2 hw.1.1.size⟩
     obtain⟨ua,ul,uc,rfl⟩:=hu;refine sq 2 ?_;refine au fun w9 hw9=> ?_
     have hw9H:=zh hw9;clear kx hw9;go_wp2_with fail;go_ret2;exact⟨_,_,rfl,hL.out.1,hL.out.2.1,hL.out.2.2,aE hw9H.out.2 (by rw[hbx];have:=hmW.out.size;omega),hmW.out.ag hw9H.out.1⟩
  ·have hlt1:decide ((m:Int)<n)=false:=by rw[decide_eq_false_iff_not];omega
   refine aS (by kernel_rfl) (by kernel_rfl) ?_;refine sq 11 ?_;refine iS rfl ?_;simp only[Act.put,sA,sB,sC];refine sq 2 ?_;refine au fun w4 hm4=> ?_
   have hbx4:=hm4.at hbx3H.out (by simp);have hm4H:=zh (hm3H.out.ag hm4);have hbx4H:=zh hbx4;clear kx hm4 hbx3H hm3H hbx4;go_wp2_with fail;have kx:=GW.cells (S:=[]) hbx4H.out (by simp);by_cases h0:0<m
   ·obtain⟨k,rfl⟩:∃k,m=k+1:=⟨m-1,by omega⟩;have hks:k<s.length:=by rw[←hnH.out];omega
    have hzl:=hcutH.out.low k hks (by omega);have hzp:=hsH.out.1 s[k] (List.getElem_mem hks);obtain⟨hg,c0,c1⟩:=oF (hH.out.mod hm4H.out) hks;have kz0:=GW.bR (S:=[]) c0 hg (by simp);have kz1:=GW.bR (S:=[]) c1 hg (by simp);obtain⟨z,hzd⟩:∃z,s[k]=z:=⟨_,rfl⟩;rw[hzd]at hzl hzp kz0 kz1;obtain⟨zo,zl⟩:=z;simp only at hzl kz0 kz1;unfold proper at hzp;simp only at hzp;have hzdH:=zh hzd;have hksH:=zh hks;clear c0 c1 hg hzd;have hk1:((k+1:Nat):Int)=(k:Int)+1:=by simp
    rw[hk1]
    try rw[hk1]at hlt1
    clear hk1;refine aS (by kernel_rfl) (by kernel_rfl) ?_;refine sq 8 ?_;refine b7 168 _ (.int .i64 (zo+zl)) rfl Tryz.call168 rfl rfl (fun w' _=>dV zo zl (by omega) (by omega) w') ?_;simp only[Act.put,sA,sB,sC];by_cases hz:zo+zl=eo
    ·have ez:(zo+zl==eo)=true:=by simpa using hz
     have hzH:=zh hz;refine sq 4 ?_;refine au fun w5 hm5=> ?_
     have hbx5:=hm5.at hbx4H.out (by simp);have hm5H:=zh (hm4H.out.ag hm5);obtain⟨hg,c0,c1⟩:=oF (hH.out.mod hm5H.out) hksH.out;rw[hzdH.out]at c0 c1;have kz0:=GW.bR (S:=[]) c0 hg (by simp);have kz1:=GW.bR (S:=[]) c1 hg (by simp);simp only at kz0 kz1;have hbx5H:=zh hbx5;have kx:=GW.cells (S:=[]) hbx5 (by simp);clear c0 c1 hg hm5 hm4H hbx4H hbx5 hz;go_wp2_with fail;clear ez;have hsum:IntKind.i64.wrap (zl+el)=zl+el:=IntWalk.i64_in _ (by omega);have hsum0:0≤zl+el:=by omega
     refine aS (by kernel_rfl) (by kernel_rfl) ?_;refine sq 14 ?_;refine dq (p:=⟨bx,0,none⟩) (u:=.agg #[.int .i64 zo,.int .i64 (zl+el)]) (fun w'=>(w'.setCell ⟨bx,0,none⟩ (.int .i64 zo)).setCell ⟨bx,1,none⟩ (.int .i64 (zl+el))) rfl rfl (by kernel_rfl) rfl rfl rfl (fun w' hw=> ?_) (fun w' hw=> ?_)
     ·have hb6:=hw.at hbx5H.out (by simp);have c1:=ae hb6;have f1:=ay hb6;clear kx kz0 kz1 hsum;go_simp
     have hbx6:=aq (o:=1) (v:=.int .i64 (zl+el)) (aq (o:=0) (v:=.int .i64 zo) (hw.at hbx5H.out (by simp)));have hm6:=(((hm5H.out.ag hw).setCell (p:=⟨bx,0,none⟩) (.inr (by rw[hbx];exact Nat.le_refl _)) (.int .i64 zo)).setCell (p:=⟨bx,1,none⟩) (.inr (by rw[hbx];exact Nat.le_refl _)) (.int .i64 (zl+el)));generalize(w'.setCell ⟨bx,0,none⟩ (.int .i64 zo)).setCell ⟨bx,1,none⟩ (.int .i64 (zl+el))=w6 at*;have hbx6H:Hid (w6.heap[bx]? =some (.cells #[.int .i64 zo,.int .i64 (zl+el)] 104 (0,0))):=zh hbx6;have hm6H:=zh hm6;clear hw hbx6 hm6 kx kz0 kz1 hsum hsum0 hm5H hbx5H;go_wp2_with fail;have kx:=GW.cells (S:=[]) hbx6H.out (by simp);refine aS (by kernel_rfl) (by kernel_rfl) ?_;refine sq 11 ?_;refine iS rfl ?_;simp only[Act.put,sA,sB,sC];refine sq 2 ?_;refine au fun W hm11=> ?_
     have hbW:=zh (hm11.at (hbx6H.out) (by simp));have hmW:=zh ((hm6H.out).ag hm11);clear kx hm11;go_wp2_with fail;have hL:=zh (hlaw.out (k+1) (k) (k+1) (zo,zl+el) (zo,zl+el) hcutH.out (.inl ⟨by simpa using hksH.out,by omega,by simp[hzdH.out];exact hzH.out,by omega,by simp[hzdH.out]⟩) (.inr ⟨fun h=>absurd h (by rw[←hnH.out];omega),rfl,rfl⟩));have kx:=GW.cells (S:=[]) hbW.out (by simp);by_cases hce:cap=k+1
     ·subst hce;obtain rfl:n=k+1:=by omega
      refine aS (by kernel_rfl) (by kernel_rfl) ?_;refine sq 4 ?_;refine aO (fun s1=>.slice (some ⟨s1,0,none⟩) 1 1) (.cells #[.int .i64 (zo),.int .i64 (zl+el)] 104 (0,0)) (fun s1 w'=>Mod [] W w'∧w'.heap[s1]? =some (.cells #[.int .i64 (zo),.int .i64 (zl+el)] 104 (0,0))) (by intro s s' h;simpa using h) rfl rfl (fun w' hw=> ?_) (fun w' hw=>⟨hw.alloc _,an _ _⟩) (fun s1 w' h=>ah.of h.1) (fun s1=> ?_)
      ·kernel_rfl
      refine sq 3 ?_;refine aO (fun s2=>.slice (some ⟨s2,0,none⟩) 3 3) (.cells #[.slice (some ⟨g,0,none⟩) (k) (k+1),.slice (some ⟨s1,0,none⟩) 1 1,(.slice (some ⟨g,0,none⟩) 0 0)] 120 (0,0)) (fun s2 w'=>(Mod [] W w'∧w'.heap[s1]? =some (.cells #[.int .i64 (zo),.int .i64 (zl+el)] 104 (0,0)))∧w'.heap[s2]? =some (.cells #[.slice (some ⟨g,0,none⟩) (k) (k+1),.slice (some ⟨s1,0,none⟩) 1 1,(.slice (some ⟨g,0,none⟩) 0 0)] 120 (0,0))) (by intro s s' h;simpa using h) rfl rfl (fun w' hw=> ?_) (fun w' hw=>⟨⟨hw.1.alloc _,aI hw.2⟩,an _ _⟩) (fun s w' h=>ah.of h.1.1) (fun s2=> ?_)
      ·kernel_rfl
      simp only[Act.put,sA,sB,sC];refine cD 203 _ (fun u=>∃a m c,u=.slice a m c) (fun u w'=>Mod [] W w'∧w'.ownsRow W.heap.size 104 2 u (cn s (k) (k+1) (zo,zl+el)).length (ax (cn s (k) (k+1) (zo,zl+el)))) rfl Tryz.call203 rfl rfl ⟨_,none,0,0,rfl⟩ (fun w' hw=> ?_) (fun u w' h=>ah.of h.1) (fun u hu=> ?_)
      ·have hF:=hH.out.mod (hmW.out.ag hw.1.1);have hF1:aw w' (.slice (some ⟨g,0,none⟩) (k) (k+1)) (s.take (k)):=hZ hF hnH.out (by omega);have hF2:aw w' (.slice (some ⟨s1,0,none⟩) 1 1) [(zo,zl+el)]:=Ty.fG hw.1.2;have hF3:aw w' (.slice (some ⟨g,0,none⟩) (0) (0)) (s.drop (k+1)):=hU hF hnH.out (by omega) (0) (0) (0) (by omega) (by omega);refine(gI hw.2 hF1 hF2 hF3 (by simp) (by first|(simp;done)|(simp;omega)) (by simp) (by simp;rw[←hnH.out];omega)).mono ?_;rintro r w'' ⟨u,g1,g2,g3⟩;exact⟨u,g1,cx g2,hw.1.1.ag g3,aE g2 hw.1.1.size⟩
      obtain⟨ua,ul,uc,rfl⟩:=hu;refine sq 2 ?_;refine au fun w9 hw9=> ?_
      have hw9H:=zh hw9;clear kx hw9;go_wp2_with fail;go_ret2;exact⟨_,_,rfl,hL.out.1,hL.out.2.1,hL.out.2.2,aE hw9H.out.2 (by rw[hbx];have:=hmW.out.size;omega),hmW.out.ag hw9H.out.1⟩
     ·refine aS (by kernel_rfl) (by kernel_rfl) ?_;refine sq 4 ?_;refine aO (fun s1=>.slice (some ⟨s1,0,none⟩) 1 1) (.cells #[.int .i64 (zo),.int .i64 (zl+el)] 104 (0,0)) (fun s1 w'=>Mod [] W w'∧w'.heap[s1]? =some (.cells #[.int .i64 (zo),.int .i64 (zl+el)] 104 (0,0))) (by intro s s' h;simpa using h) rfl rfl (fun w' hw=> ?_) (fun w' hw=>⟨hw.alloc _,an _ _⟩) (fun s1 w' h=>ah.of h.1) (fun s1=> ?_)
      ·kernel_rfl
      refine sq 3 ?_;refine aO (fun s2=>.slice (some ⟨s2,0,none⟩) 3 3) (.cells #[.slice (some ⟨g,0,none⟩) (k) (cap),.slice (some ⟨s1,0,none⟩) 1 1,(.slice (some ⟨g,(k+1)*2,none⟩) (n-(k+1)) (cap-(k+1)))] 120 (0,0)) (fun s2 w'=>(Mod [] W w'∧w'.heap[s1]? =some (.cells #[.int .i64 (zo),.int .i64 (zl+el)] 104 (0,0)))∧w'.heap[s2]? =some (.cells #[.slice (some ⟨g,0,none⟩) (k) (cap),.slice (some ⟨s1,0,none⟩) 1 1,(.slice (some ⟨g,(k+1)*2,none⟩) (n-(k+1)) (cap-(k+1)))] 120 (0,0))) (by intro s s' h;simpa using h) rfl rfl (fun w' hw=> ?_) (fun w' hw=>⟨⟨hw.1.alloc _,aI hw.2⟩,an _ _⟩) (fun s w' h=>ah.of h.1.1) (fun s2=> ?_)
      ·kernel_rfl
      simp only[Act.put,sA,sB,sC];refine cD 203 _ (fun u=>∃a m c,u=.slice a m c) (fun u w'=>Mod [] W w'∧w'.ownsRow W.heap.size 104 2 u (cn s (k) (k+1) (zo,zl+el)).length (ax (cn s (k) (k+1) (zo,zl+el)))) rfl Tryz.call203 rfl rfl ⟨_,none,0,0,rfl⟩ (fun w' hw=> ?_) (fun u w' h=>ah.of h.1) (fun u hu=> ?_)
      ·have hF:=hH.out.mod (hmW.out.ag hw.1.1);have hF1:aw w' (.slice (some ⟨g,0,none⟩) (k) (cap)) (s.take (k)):=hZ hF hnH.out (by omega);have hF2:aw w' (.slice (some ⟨s1,0,none⟩) 1 1) [(zo,zl+el)]:=Ty.fG hw.1.2;have hF3:aw w' (.slice (some ⟨g,(k+1)*2,none⟩) (n-(k+1)) (cap-(k+1))) (s.drop (k+1)):=hU hF hnH.out (by omega) ((k+1)*2) (cap-(k+1)) (n-(k+1)) (by omega) (by omega);refine(gI hw.2 hF1 hF2 hF3 (by simp) (by first|(simp;done)|(simp;omega)) (by simp) (by simp;rw[←hnH.out];omega)).mono ?_;rintro r w'' ⟨u,g1,g2,g3⟩;exact⟨u,g1,cx g2,hw.1.1.ag g3,aE g2 hw.1.1.size⟩
      obtain⟨ua,ul,uc,rfl⟩:=hu;refine sq 2 ?_;refine au fun w9 hw9=> ?_
      have hw9H:=zh hw9;clear kx hw9;go_wp2_with fail;go_ret2;exact⟨_,_,rfl,hL.out.1,hL.out.2.1,hL.out.2.2,aE hw9H.out.2 (by rw[hbx];have:=hmW.out.size;omega),hmW.out.ag hw9H.out.1⟩
    ·have ez:(zo+zl==eo)=false:=by simpa using hz
     have hzH:=zh hz;refine sq 4 ?_;refine au fun w6 hm6=> ?_
     have hbx6H:=zh (hm6.at hbx4H.out (by simp));have hm6H:=zh (hm4H.out.ag hm6);clear kx kz0 kz1 hm6 hm4H hbx4H hz;go_wp2_with fail;clear ez;have kx:=GW.cells (S:=[]) hbx6H.out (by simp);refine aS (by kernel_rfl) (by kernel_rfl) ?_;refine sq 11 ?_;refine iS rfl ?_;simp only[Act.put,sA,sB,sC];refine sq 2 ?_;refine au fun W hm11=> ?_
     have hbW:=zh (hm11.at (hbx6H.out) (by simp));have hmW:=zh ((hm6H.out).ag hm11);clear kx hm11;go_wp2_with fail;have hL:=zh (hlaw.out (k+1) (k+1) (k+1) (eo,el) (eo,el) hcutH.out (.inr ⟨fun _ _=>by simp[hzdH.out];exact hzH.out,rfl,rfl⟩) (.inr ⟨fun h=>absurd h (by rw[←hnH.out];omega),rfl,rfl⟩));have kx:=GW.cells (S:=[]) hbW.out (by simp);by_cases hce:cap=k+1
     ·subst hce;obtain rfl:n=k+1:=by omega
      refine aS (by kernel_rfl) (by kernel_rfl) ?_;refine sq 4 ?_;refine aO (fun s1=>.slice (some ⟨s1,0,none⟩) 1 1) (.cells #[.int .i64 (eo),.int .i64 (el)] 104 (0,0)) (fun s1 w'=>Mod [] W w'∧w'.heap[s1]? =some (.cells #[.int .i64 (eo),.int .i64 (el)] 104 (0,0))) (by intro s s' h;simpa using h) rfl rfl (fun w' hw=> ?_) (fun w' hw=>⟨hw.alloc _,an _ _⟩) (fun s1 w' h=>ah.of h.1) (fun s1=> ?_)
      ·kernel_rfl
      refine sq 3 ?_;refine aO (fun s2=>.slice (some ⟨s2,0,none⟩) 3 3) (.cells #[.slice (some ⟨g,0,none⟩) (k+1) (k+1),.slice (some ⟨s1,0,none⟩) 1 1,(.slice (some ⟨g,0,none⟩) 0 0)] 120 (0,0)) (fun s2 w'=>(Mod [] W w'∧w'.heap[s1]? =some (.cells #[.int .i64 (eo),.int .i64 (el)] 104 (0,0)))∧w'.heap[s2]? =some (.cells #[.slice (some ⟨g,0,none⟩) (k+1) (k+1),.slice (some ⟨s1,0,none⟩) 1 1,(.slice (some ⟨g,0,none⟩) 0 0)] 120 (0,0))) (by intro s s' h;simpa using h) rfl rfl (fun w' hw=> ?_) (fun w' hw=>⟨⟨hw.1.alloc _,aI hw.2⟩,an _ _⟩) (fun s w' h=>ah.of h.1.1) (fun s2=> ?_)
      ·kernel_rfl
      simp only[Act.put,sA,sB,sC];refine cD 203 _ (fun u=>∃a m c,u=.slice a m c) (fun u w'=>Mod [] W w'∧w'.ownsRow W.heap.size 104 2 u (cn s (k+1) (k+1) (eo,el)).length (ax (cn s (k+1) (k+1) (eo,el)))) rfl Tryz.call203 rfl rfl ⟨_,none,0,0,rfl⟩ (fun w' hw=> ?_) (fun u w' h=>ah.of h.1) (fun u hu=> ?_)
      ·have hF:=hH.out.mod (hmW.out.ag hw.1.1);have hF1:aw w' (.slice (some ⟨g,0,none⟩) (k+1) (k+1)) (s.take (k+1)):=hZ hF hnH.out (by omega);have hF2:aw w' (.slice (some ⟨s1,0,none⟩) 1 1) [(eo,el)]:=Ty.fG hw.1.2;have hF3:aw w' (.slice (some ⟨g,0,none⟩) (0) (0)) (s.drop (k+1)):=hU hF hnH.out (by omega) (0) (0) (0) (by omega) (by omega);refine(gI hw.2 hF1 hF2 hF3 (by simp) (by first|(simp;done)|(simp;omega)) (by simp) (by simp;rw[←hnH.out];omega)).mono ?_;rintro r w'' ⟨u,g1,g2,g3⟩;exact⟨u,g1,cx g2,hw.1.1.ag g3,aE g2 hw.1.1.size⟩
      obtain⟨ua,ul,uc,rfl⟩:=hu;refine sq 2 ?_;refine au fun w9 hw9=> ?_
      have hw9H:=zh hw9;clear kx hw9;go_wp2_with fail;go_ret2;exact⟨_,_,rfl,hL.out.1,hL.out.2.1,hL.out.2.2,aE hw9H.out.2 (by rw[hbx];have:=hmW.out.size;omega),hmW.out.ag hw9H.out.1⟩
     ·refine aS (by kernel_rfl) (by kernel_rfl) ?_;refine sq 4 ?_;refine aO (fun s1=>.slice (some ⟨s1,0,none⟩) 1 1) (.cells #[.int .i64 (eo),.int .i64 (el)] 104 (0,0)) (fun s1 w'=>Mod [] W w'∧w'.heap[s1]? =some (.cells #[.int .i64 (eo),.int .i64 (el)] 104 (0,0))) (by intro s s' h;simpa using h) rfl rfl (fun w' hw=> ?_) (fun w' hw=>⟨hw.alloc _,an _ _⟩) (fun s1 w' h=>ah.of h.1) (fun s1=> ?_)
      ·kernel_rfl
      refine sq 3 ?_;refine aO (fun s2=>.slice (some ⟨s2,0,none⟩) 3 3) (.cells #[.slice (some ⟨g,0,none⟩) (k+1) (cap),.slice (some ⟨s1,0,none⟩) 1 1,(.slice (some ⟨g,(k+1)*2,none⟩) (n-(k+1)) (cap-(k+1)))] 120 (0,0)) (fun s2 w'=>(Mod [] W w'∧w'.heap[s1]? =some (.cells #[.int .i64 (eo),.int .i64 (el)] 104 (0,0)))∧w'.heap[s2]? =some (.cells #[.slice (some ⟨g,0,none⟩) (k+1) (cap),.slice (some ⟨s1,0,none⟩) 1 1,(.slice (some ⟨g,(k+1)*2,none⟩) (n-(k+1)) (cap-(k+1)))] 120 (0,0))) (by intro s s' h;simpa using h) rfl rfl (fun w' hw=> ?_) (fun w' hw=>⟨⟨hw.1.alloc _,aI hw.2⟩,an _ _⟩) (fun s w' h=>ah.of h.1.1) (fun s2=> ?_)
      ·kernel_rfl
      simp only[Act.put,sA,sB,sC];refine cD 203 _ (fun u=>∃a m c,u=.slice a m c) (fun u w'=>Mod [] W w'∧w'.ownsRow W.heap.size 104 2 u (cn s (k+1) (k+1) (eo,el)).length (ax (cn s (k+1) (k+1) (eo,el)))) rfl Tryz.call203 rfl rfl ⟨_,none,0,0,rfl⟩ (fun w' hw=> ?_) (fun u w' h=>ah.of h.1) (fun u hu=> ?_)
      ·have hF:=hH.out.mod (hmW.out.ag hw.1.1);have hF1:aw w' (.slice (some ⟨g,0,none⟩) (k+1) (cap)) (s.take (k+1)):=hZ hF hnH.out (by omega);have hF2:aw w' (.slice (some ⟨s1,0,none⟩) 1 1) [(eo,el)]:=Ty.fG hw.1.2;have hF3:aw w' (.slice (some ⟨g,(k+1)*2,none⟩) (n-(k+1)) (cap-(k+1))) (s.drop (k+1)):=hU hF hnH.out (by omega) ((k+1)*2) (cap-(k+1)) (n-(k+1)) (by omega) (by omega);refine(gI hw.2 hF1 hF2 hF3 (by simp) (by first|(simp;done)|(simp;omega)) (by simp) (by simp;rw[←hnH.out];omega)).mono ?_;rintro r w'' ⟨u,g1,g2,g3⟩;exact⟨u,g1,cx g2,hw.1.1.ag g3,aE g2 hw.1.1.size⟩
      obtain⟨ua,ul,uc,rfl⟩:=hu;refine sq 2 ?_;refine au fun w9 hw9=> ?_
      have hw9H:=zh hw9;clear kx hw9;go_wp2_with fail;go_ret2;exact⟨_,_,rfl,hL.out.1,hL.out.2.1,hL.out.2.2,aE hw9H.out.2 (by rw[hbx];have:=hmW.out.size;omega),hmW.out.ag hw9H.out.1⟩
   ·obtain rfl:m=0:=by omega
    refine aS (by kernel_rfl) (by kernel_rfl) ?_;refine sq 8 ?_;refine iS rfl ?_;simp only[Act.put,sA,sB,sC];refine sq 4 ?_;refine au fun w6 hm6=> ?_
    have hbx6H:=zh (hm6.at hbx4H.out (by simp));have hm6H:=zh (hm4H.out.ag hm6);clear kx hm6 hm4H hbx4H;go_wp2_with fail;have kx:=GW.cells (S:=[]) hbx6H.out (by simp);refine aS (by kernel_rfl) (by kernel_rfl) ?_;refine sq 11 ?_;refine iS rfl ?_;simp only[Act.put,sA,sB,sC];refine sq 2 ?_;refine au fun W hm11=> ?_
    have hbW:=zh (hm11.at (hbx6H.out) (by simp));have hmW:=zh ((hm6H.out).ag hm11);clear kx hm11;go_wp2_with fail;have hL:=zh (hlaw.out (0) (0) (0) (eo,el) (eo,el) hcutH.out (.inr ⟨fun _ h=>absurd h (by omega),rfl,rfl⟩) (.inr ⟨fun h=>absurd h (by rw[←hnH.out];omega),rfl,rfl⟩));have kx:=GW.cells (S:=[]) hbW.out (by simp);by_cases hce:cap=0
    ·subst hce;obtain rfl:n=0:=by omega
     refine aS (by kernel_rfl) (by kernel_rfl) ?_;refine sq 4 ?_;refine aO (fun s1=>.slice (some ⟨s1,0,none⟩) 1 1) (.cells #[.int .i64 (eo),.int .i64 (el)] 104 (0,0)) (fun s1 w'=>Mod [] W w'∧w'.heap[s1]? =some (.cells #[.int .i64 (eo),.int .i64 (el)] 104 (0,0))) (by intro s s' h;simpa using h) rfl rfl (fun w' hw=> ?_) (fun w' hw=>⟨hw.alloc _,an _ _⟩) (fun s1 w' h=>ah.of h.1) (fun s1=> ?_)
     ·kernel_rfl
     refine sq 3 ?_;refine aO (fun s2=>.slice (some ⟨s2,0,none⟩) 3 3) (.cells #[.slice (some ⟨g,0,none⟩) (0) (0),.slice (some ⟨s1,0,none⟩) 1 1,(.slice (some ⟨g,0,none⟩) 0 0)] 120 (0,0)) (fun s2 w'=>(Mod [] W w'∧w'.heap[s1]? =some (.cells #[.int .i64 (eo),.int .i64 (el)] 104 (0,0)))∧w'.heap[s2]? =some (.cells #[.slice (some ⟨g,0,none⟩) (0) (0),.slice (some ⟨s1,0,none⟩) 1 1,(.slice (some ⟨g,0,none⟩) 0 0)] 120 (0,0))) (by intro s s' h;simpa using h) rfl rfl (fun w' hw=> ?_) (fun w' hw=>⟨⟨hw.1.alloc _,aI hw.2⟩,an _ _⟩) (fun s w' h=>ah.of h.1.1) (fun s2=> ?_)
     ·kernel_rfl
     simp only[Act.put,sA,sB,sC];refine cD 203 _ (fun u=>∃a m c,u=.slice a m c) (fun u w'=>Mod [] W w'∧w'.ownsRow W.heap.size 104 2 u (cn s (0) (0) (eo,el)).length (ax (cn s (0) (0) (eo,el)))) rfl Tryz.call203 rfl rfl ⟨_,none,0,0,rfl⟩ (fun w' hw=> ?_) (fun u w' h=>ah.of h.1) (fun u hu=> ?_)
     ·have hF:=hH.out.mod (hmW.out.ag hw.1.1);have hF1:aw w' (.slice (some ⟨g,0,none⟩) (0) (0)) (s.take (0)):=hZ hF hnH.out (by omega);have hF2:aw w' (.slice (some ⟨s1,0,none⟩) 1 1) [(eo,el)]:=Ty.fG hw.1.2;have hF3:aw w' (.slice (some ⟨g,0,none⟩) (0) (0)) (s.drop (0)):=hU hF hnH.out (by omega) (0) (0) (0) (by omega) (by omega);refine(gI hw.2 hF1 hF2 hF3 (by simp) (by first|(simp;done)|(simp;omega)) (by simp) (by simp;rw[←hnH.out];omega)).mono ?_;rintro r w'' ⟨u,g1,g2,g3⟩;exact⟨u,g1,cx g2,hw.1.1.ag g3,aE g2 hw.1.1.size⟩
     obtain⟨ua,ul,uc,rfl⟩:=hu;refine sq 2 ?_;refine au fun w9 hw9=> ?_
     have hw9H:=zh hw9;clear kx hw9;go_wp2_with fail;go_ret2;exact⟨_,_,rfl,hL.out.1,hL.out.2.1,hL.out.2.2,aE hw9H.out.2 (by rw[hbx];have:=hmW.out.size;omega),hmW.out.ag hw9H.out.1⟩
    ·refine aS (by kernel_rfl) (by kernel_rfl) ?_;refine sq 4 ?_;refine aO (fun s1=>.slice (some ⟨s1,0,none⟩) 1 1) (.cells #[.int .i64 (eo),.int .i64 (el)] 104 (0,0)) (fun s1 w'=>Mod [] W w'∧w'.heap[s1]? =some (.cells #[.int .i64 (eo),.int .i64 (el)] 104 (0,0))) (by intro s s' h;simpa using h) rfl rfl (fun w' hw=> ?_) (fun w' hw=>⟨hw.alloc _,an _ _⟩) (fun s1 w' h=>ah.of h.1) (fun s1=> ?_)
     ·kernel_rfl
     refine sq 3 ?_;refine aO (fun s2=>.slice (some ⟨s2,0,none⟩) 3 3) (.cells #[.slice (some ⟨g,0,none⟩) (0) (cap),.slice (some ⟨s1,0,none⟩) 1 1,(.slice (some ⟨g,(0)*2,none⟩) (n-(0)) (cap-(0)))] 120 (0,0)) (fun s2 w'=>(Mod [] W w'∧w'.heap[s1]? =some (.cells #[.int .i64 (eo),.int .i64 (el)] 104 (0,0)))∧w'.heap[s2]? =some (.cells #[.slice (some ⟨g,0,none⟩) (0) (cap),.slice (some ⟨s1,0,none⟩) 1 1,(.slice (some ⟨g,(0)*2,none⟩) (n-(0)) (cap-(0)))] 120 (0,0))) (by intro s s' h;simpa using h) rfl rfl (fun w' hw=> ?_) (fun w' hw=>⟨⟨hw.1.alloc _,aI hw.2⟩,an _ _⟩) (fun s w' h=>ah.of h.1.1) (fun s2=> ?_)
     ·kernel_rfl
     simp only[Act.put,sA,sB,sC];refine cD 203 _ (fun u=>∃a m c,u=.slice a m c) (fun u w'=>Mod [] W w'∧w'.ownsRow W.heap.size 104 2 u (cn s (0) (0) (eo,el)).length (ax (cn s (0) (0) (eo,el)))) rfl Tryz.call203 rfl rfl ⟨_,none,0,0,rfl⟩ (fun w' hw=> ?_) (fun u w' h=>ah.of h.1) (fun u hu=> ?_)
     ·have hF:=hH.out.mod (hmW.out.ag hw.1.1);have hF1:aw w' (.slice (some ⟨g,0,none⟩) (0) (cap)) (s.take (0)):=hZ hF hnH.out (by omega);have hF2:aw w' (.slice (some ⟨s1,0,none⟩) 1 1) [(eo,el)]:=Ty.fG hw.1.2;have hF3:aw w' (.slice (some ⟨g,(0)*2,none⟩) (n-(0)) (cap-(0))) (s.drop (0)):=hU hF hnH.out (by omega) ((0)*2) (cap-(0)) (n-(0)) (by omega) (by omega);refine(gI hw.2 hF1 hF2 hF3 (by simp) (by first|(simp;done)|(simp;omega)) (by simp) (by simp;rw[←hnH.out];omega)).mono ?_;rintro r w'' ⟨u,g1,g2,g3⟩;exact⟨u,g1,cx g2,hw.1.1.ag g3,aE g2 hw.1.1.size⟩
     obtain⟨ua,ul,uc,rfl⟩:=hu;refine sq 2 ?_;refine au fun w9 hw9=> ?_
     have hw9H:=zh hw9;clear kx hw9;go_wp2_with fail;go_ret2;exact⟨_,_,rfl,hL.out.1,hL.out.2.1,hL.out.2.2,aE hw9H.out.2 (by rw[hbx];have:=hmW.out.size;omega),hmW.out.ag hw9H.out.1⟩
end Go.Proofs.YtdehaommhbjakaaGreat
