/- Joined contracts. No conditions. -/
import Derived.Test.YtdehaommhbjakaaGreatC31
set_option maxHeartbeats 4000000
set_option maxRecDepth 20000
namespace Go.Proofs.YtdehaommhbjakaaGreat.Ty
open RowKit Stg
attribute [local go_sem] Oper.semAt_some
theorem aw.slice {w:World} {v:Value} {fs:List aM} (h:aw w v fs):∃a m c,v=.slice a m c:=by
 rcases h with⟨h,_⟩|⟨_,_,_,h,_⟩<;>exact⟨_,_,_,h⟩
theorem aw.grown {w w':World} {v:Value} {fs:List aM} {row:Option Nat} (h:aw w v fs) (hg:w.grownBy w' row) (hr:∀r,row=some r→∃o:Obj,w.heap[r]? =some o∧o.isCells=false):aw w' v fs:=by
 rcases h with h|⟨sb,so,cap,rfl,h2,h3,h4⟩
 ·exact .inl h
 ·refine .inr ⟨sb,so,cap,rfl,Nat.lt_of_lt_of_le h2 hg.size,h3,fun i hi=> ?_⟩;obtain⟨a,b⟩:=h4 i hi;have hne:some sb≠row:=fun e=>by
   obtain⟨o,ho,hc⟩:=hr sb e.symm;unfold World.cell? at a;simp only[ho]at a;cases o<;>simp[Obj.isCells]at hc<;>simp at a
  have hb:∀j,w'.cell? ⟨sb,j,none⟩=w.cell? ⟨sb,j,none⟩:=fun j=>World.cell?_of_block (a:=⟨sb,j,none⟩) (hg.block sb h2 hne)
  exact⟨(hb _).trans a,(hb _).trans b⟩
end Go.Proofs.YtdehaommhbjakaaGreat.Ty
namespace Go.Proofs.YtdehaommhbjakaaGreat
open RowKit Stg
def gu (w:World) (sm:Nat) (st:Int→Int):Prop:=∃es c,w.heap[sm]? =some (.map es c)∧cL es.toList∧∀k,bU k es.toList=if st k=0 then none else some (.bool (decide (st k=1)))
theorem gu.mod {S:List Nat} {w w':World} {sm:Nat} {st:Int→Int} (h:gu w sm st) (hm:Mod S w w') (hS:sm∉S):gu w' sm st:=
 let ⟨es,c,h1,h2,h3⟩:=h;⟨es,c,hm.at h1 hS,h2,h3⟩
def gW (sm:Nat) (st:Int→Int):ai:=
 ⟨fun w f=>gu w sm st∧f=[sm],fun h hm hT=>⟨h.1.mod hm (hT sm (by rw[h.2];simp)),h.2⟩,fun h x hx=>by
  rw[h.2,List.mem_singleton]at hx;subst hx;obtain⟨_,_,h1,_⟩:=h.1;exact aL h1⟩
theorem gu.look {w:World} {sm:Nat} {st:Int→Int} (h:gu w sm st) (k:Int):(Instr.lookup 74 (.map (some sm)) (.int .i64 k) false).run Tryz.prog w=.ok (.bool (decide (st k=1))) w:=by
 obtain⟨es,c,h1,h2,h3⟩:=h;rw[jG Tryz.underlying74 Tryz.underlying3 Tryz.zeroValue4 h1 h2,h3];by_cases e:st k=0
 ·rw[if_pos e,e];rfl
 ·rw[if_neg e];rfl
theorem gu.zp {w:World} {sm:Nat} {st:Int→Int} (h:gu w sm st) (k:Int):(Instr.lookup 74 (.map (some sm)) (.int .i64 k) true).run Tryz.prog w=.ok (.tuple #[.bool (decide (st k=1)),.bool (decide (st k≠0))]) w:=by
 obtain⟨es,c,h1,h2,h3⟩:=h;rw[ui Tryz.underlying74 Tryz.underlying3 Tryz.zeroValue4 h1 h2,h3];by_cases e:st k=0
 ·rw[if_pos e,e];rfl
 ·rw[if_neg e];simp[e]
theorem gu.put {w:World} {sm:Nat} {st:Int→Int} (h:gu w sm st) (p:Int) (b:Bool):∃w',(Instr.mapUpdate 74 (.map (some sm)) (.int .i64 p) (.bool b)).run Tryz.prog w=.ok () w'∧gu w' sm (eJ st p (if b=true then 1 else 2))∧Mod [sm] w w':=by
 obtain⟨es,c,h1,h2,h3⟩:=h;obtain⟨k1,k2⟩:=kE p (.bool b) c es h2;refine⟨_,mM (P:=Tryz.prog) Tryz.underlying74 Tryz.underlying3 h1 h2 p (.bool b),⟨_,_,ie h1,k1,fun k=> ?_⟩,(Mod.refl [sm] w).gj (.inl (by simp)) _⟩;rw[k2];unfold eJ;by_cases e:k=p
 ·subst e;cases b<;>simp
 ·rw[if_neg e,if_neg e];exact h3 k
theorem gu.congr {w:World} {sm:Nat} {st st':Int→Int} (h:gu w sm st) (e:∀k,st k=st' k):gu w sm st':=by
 obtain rfl:st=st':=funext e;exact h
theorem nh {F:List Nat} {W w:World} {cs:List ai} (i:Nat) {sm:Nat} {st:Int→Int} (h:af F W cs w) (hi:cs[i]? =some (gW sm st)):gu w sm st:=
 let ⟨_,h1,_⟩:=h.part i hi;h1.1
def jm (b:Nat) (l:Qt.Q) (f:Int→Qt.Q):ai:=
 ⟨fun w fp=>∃mo,Qt.jj w b mo l f∧fp=b::mo.toList,fun⟨mo,h,e⟩ hm hT=>⟨mo,h.mod hm fun x hx=>hT x (by rw[e];exact hx),e⟩,fun⟨mo,h,e⟩ x hx=>by
  rw[e]at hx;rcases List.mem_cons.1 hx with rfl|hx
  ·exact aL h.aQ
  ·rw[Option.mem_toList]at hx;exact h.map.lt x hx⟩
structure HA where
 hb:Nat
 ar:Nat
 rt:Nat
 tb:Nat
 lb:Nat
 mb:Nat
 gb:Nat
 sm:Nat
 ev:Value
 b:Nat
 pb:Nat
 sl:Value
def jX (a:HA):Obj:=.cells #[.pointer (some ⟨a.ar,0,none⟩),.pointer (some ⟨a.rt,0,none⟩),.pointer (some ⟨a.tb,0,none⟩),.pointer (some ⟨a.lb,0,none⟩),.pointer (some ⟨a.mb,0,none⟩),.pointer (some ⟨a.gb,0,none⟩),.map (some a.sm)] 76 (0,0)
def gF (a:HA) (c:HC) (R:List Ty.Ty) (T:Tb.TS) (L:List Bw.ak) (evs:List Ev) (miss:List Int) (st:Int→Int) (u:List Ext) (B:List Int) (fm:Int→Qt.Q):List ai:=
 [aj a.hb (jX a),b6 a.ar c.size u B,Ty.dN 156 a.rt R,Tb.gy a.tb a.ev a.b a.pb a.sl c.first T,Bw.eu a.lb L,jm a.mb c.lim fm,dG a.gb c.cap evs miss,gW a.sm st]
def Hh (a:HA) (c:HC) (s:HS) (w:World) (f:List Nat):Prop:=∃B,cd c.size (ct c s) B∧aU (gF a c s.R s.T s.L s.evs s.miss s.st (bA c s) B (aF c s)) w f
def aB (a:HA) (c:HC) (s:HS):ai:=⟨Hh a c s,fun⟨B,h1,h2⟩ hm hT=>⟨B,h1,h2.bj hm hT⟩,fun⟨_,_,h⟩=>h.lt⟩
section
variable {F:List Nat} {W w:World} {cs:List ai} {a:HA} {c:HC} {s:HS}
theorem eE (h:af F W (aB a c s::cs) w):∃B,cd c.size (ct c s) B∧af F W (gF a c s.R s.T s.L s.evs s.miss s.st (bA c s) B (aF c s)++cs) w:=by
 obtain⟨h1,fp,⟨f,g,⟨B,hB,hf⟩,hg,hd,rfl⟩,h2⟩:=h;exact⟨B,hB,h1,f++g,hf.append hg hd,h2⟩
theorem cz {B:List Int} (hB:cd c.size (ct c s) B) (h:af F W (gF a c s.R s.T s.L s.evs s.miss s.st (bA c s) B (aF c s)++cs) w):af F W (aB a c s::cs) w:=
 af.js (c:=aB a c s) _ h fun _ hg=>⟨B,hB,hg⟩
end
section
variable {w:World} {a:HA} (hb:w.heap[a.hb]? =some (jX a))
include hb
theorem oD:Calls Tryz.prog 21 #[.pointer (some ⟨a.hb,0,none⟩)] w fun e w'=>e=.returned (.bool true)∧Mod [] w w':=by
 have hc:=ae hb;have hnil:∀w,(binOp .neq 74 (.map (some a.sm)) (.map none)).run Tryz.prog w=.ok (.bool true) w:=fun w=>run_neq_map_nil w _ _ _ (some a.sm) Tryz.underlying74
 clear hb;go_enter Tryz.func21,Tryz.ntmps21;go_wp2_with fail;go_ret;exact⟨rfl,Mod.refl _ _⟩
theorem p7 {st:Int→Int} (hs:gu w a.sm st) (p:Int):Calls Tryz.prog 81 #[.pointer (some ⟨a.hb,0,none⟩),.int .i64 p] w fun e w'=>e=.returned (.bool (decide (st p=1)))∧Mod [] w w':=by
 have hbH:=zh hb;have hsH:=zh hs;have hwk:=zh (oD hb);clear hb hs;go_enter Tryz.func81,Tryz.ntmps81;go_wp2_with fail;refine hwk.out.mono ?_;rintro e w1 ⟨rfl,hm⟩;have hc:=ae (hm.at hbH.out (by simp));have hlk:=(hsH.out.mod hm (by simp)).look p;have hmH:=zh hm;clear hm hwk hbH;go_wp2_with fail;go_ret;exact⟨rfl,hmH.out⟩
theorem xN {s:HS} (hs:gu w a.sm s.st) (p q:Int):Calls Tryz.prog 122 #[.pointer (some ⟨a.hb,0,none⟩),.int .i64 p,.int .i64 q] w fun e w'=>e=.returned (.int .i64 (iJ s p q))∧Mod [] w w':=by
 have hal:=zh (p7 hb hs q);clear hb hs;unfold iJ;by_cases e:q=p
 ·have e1:(q==p)=true:=by simp[e]
  rw[if_pos (.inl e)];go_enter Tryz.func122,Tryz.ntmps122;go_wp2_with fail;go_ret;exact⟨rfl,Mod.refl _ _⟩
 ·have e1:(q==p)=false:=by simp[e]
  obtain⟨b,hbb⟩:∃b,decide (s.st q=1)=b:=⟨_,rfl⟩;rw[hbb]at hal;have e2:(q=p∨s.st q≠1)↔b=false:=by rw[←hbb];simp[e]
  simp only[e2];clear e2 hbb e
  cases b with
  |true=>
   rw[if_neg (by simp)];go_enter Tryz.func122,Tryz.ntmps122;go_wp2_with fail;refine hal.out.mono ?_;rintro e w1 ⟨rfl,hm⟩;have hmH:=zh hm;clear hm hal;go_wp2_with fail;go_ret;exact⟨rfl,hmH.out⟩
  |false=>
   rw[if_pos rfl];go_enter Tryz.func122,Tryz.ntmps122;go_wp2_with fail;refine hal.out.mono ?_;rintro e w1 ⟨rfl,hm⟩;have hmH:=zh hm;clear hm hal;go_wp2_with fail;go_ret;exact⟨rfl,hmH.out⟩
end
theorem rP (n l m:Int) (w:World):Calls Tryz.prog 38 #[.int .i64 n,.int .i64 l,.int .i64 m] w fun e w'=>e=.returned (.bool (decide (l≤n)&&decide (n≤m)))∧Mod [] w w':=by
 by_cases h:l≤n
 ·have e1:decide (n≥l)=true:=by simp[h]
  rw[show decide (l≤n)=true by simp[h],Bool.true_and];go_enter Tryz.func38,Tryz.ntmps38;go_wp2_with fail;go_ret;exact⟨rfl,Mod.refl _ _⟩
 ·have e1:decide (n≥l)=false:=by simp;omega
  rw[show decide (l≤n)=false by simp;omega,Bool.false_and];go_enter Tryz.func38,Tryz.ntmps38;go_wp2_with fail;go_ret;exact⟨rfl,Mod.refl _ _⟩
end Go.Proofs.YtdehaommhbjakaaGreat
namespace Go.Proofs.YtdehaommhbjakaaGreat
open RowKit Stg
structure Cf where
 n:Int
 size:Int
 first:Int
 cap:Int
 b:Int
 o:Int
 r:Int
 cA:Int
 stack:Int
def iA (c:Cf):Array Value:=#[.int .i64 c.n,.int .i64 c.size,.int .u32 c.first,.int .i64 c.cap,.int .i64 c.b,.int .i64 c.o,.int .i64 c.r,.int .i64 c.cA,.int .i64 c.stack]
def bE (c:Cf):Prop:=(0≤c.n∧c.n≤4096)∧(0≤c.size∧c.size≤1048576)∧c.first≠0∧(0≤c.cap∧c.cap≤65536)∧0≤c.b∧0≤c.o∧0≤c.r∧(1≤c.cA∧c.cA≤256)∧(0≤c.stack∧c.stack≤16384)
instance (c:Cf):Decidable (bE c):=by unfold bE;infer_instance
def qS (c:Cf):Int:=if bE c then 0 else 1
theorem qu {c:Cf} (h:bE c):qS c=0:=if_pos h
theorem cF {c:Cf} (h:¬bE c):qS c=1:=if_neg h
theorem gL {n l m:Int} (h:l≤n∧n≤m) (w:World):Calls Tryz.prog 38 #[.int .i64 n,.int .i64 l,.int .i64 m] w fun e w'=>e=.returned (.bool true)∧Mod [] w w':=by
 have:=rP n l m w
 rwa [show(decide (l≤n)&&decide (n≤m))=true by simp[h.1,h.2]]at this
theorem gM {n l m:Int} (h:¬(l≤n∧n≤m)) (w:World):Calls Tryz.prog 38 #[.int .i64 n,.int .i64 l,.int .i64 m] w fun e w'=>e=.returned (.bool false)∧Mod [] w w':=by
 have:=rP n l m w
 rwa [show(decide (l≤n)&&decide (n≤m))=false by rw[Bool.and_eq_false_iff,decide_eq_false_iff_not,decide_eq_false_iff_not];omega]at this
theorem mZ (c:Cf) (w:World):Calls Tryz.prog 29 #[.agg (iA c)] w fun e w'=>e=.returned (.int .i64 (qS c))∧Mod [] w w':=by
 obtain⟨n,size,first,cap,b,o,r,cA,stack⟩:=c;unfold iA;simp only;have hS:=(((af.empty w).alloc (.cells #[.int .i64 n,.int .i64 size,.int .u32 first,.int .i64 cap,.int .i64 b,.int .i64 o,.int .i64 r,.int .i64 cA,.int .i64 stack] 47)).alloc (.cells #[.int .i64 b,.int .i64 o,.int .i64 r] 45));rw[World.size_alloc]at hS;have hS:=zh hS;have c1:=trivial;have c2:=trivial;by_cases hf:first=0
 ·subst hf;have hf:=zh trivial;go_enter Tryz.func29,Tryz.ntmps29;go_wp2_with fail;by_cases hn:0≤n∧n≤4096
  rotate_left
  ·refine(gM hn _).mono ?_;rintro e w1 ⟨rfl,hm⟩;have hm:=zh (hS.out.then hm);clear c1 c2;go_wp2_with fail;go_ret;exact⟨by rw[cF (fun h=>hn (by unfold bE at h;simp only at h;omega))];rfl,hm.out.mod⟩
  refine(gL hn _).mono ?_;rintro e w1 ⟨rfl,hm⟩;clear c1 c2;have hS:=zh (hS.out.then hm);have c1:=ae (hS.out.block 0 rfl);have c2:=ae (hS.out.block 1 rfl);clear hm;go_wp2_with fail;by_cases hs:0≤size∧size≤1048576
  rotate_left
  ·refine(gM hs _).mono ?_;rintro e w1 ⟨rfl,hm⟩;have hm:=zh (hS.out.then hm);clear c1 c2;go_wp2_with fail;go_ret;exact⟨by rw[cF (fun h=>hs (by unfold bE at h;simp only at h;omega))];rfl,hm.out.mod⟩
  refine(gL hs _).mono ?_;rintro e w1 ⟨rfl,hm⟩;clear c1 c2;have hS:=zh (hS.out.then hm);have c1:=ae (hS.out.block 0 rfl);have c2:=ae (hS.out.block 1 rfl);clear hm;go_wp2_with fail;go_ret;have hf1:=hf.out;exact⟨by rw[cF (fun h=>by unfold bE at h;simp only at h;omega)];rfl,hS.out.mod⟩
 have e0:(first==0)=false:=by simp[hf]
 have hf:=zh hf;by_cases hb:b<0
 ·have e1:decide (b<0)=true:=by simp[hb]
  go_enter Tryz.func29,Tryz.ntmps29;go_wp2_with fail;by_cases hn:0≤n∧n≤4096
  rotate_left
  ·refine(gM hn _).mono ?_;rintro e w1 ⟨rfl,hm⟩;have hm:=zh (hS.out.then hm);clear c1 c2;go_wp2_with fail;go_ret;exact⟨by rw[cF (fun h=>hn (by unfold bE at h;simp only at h;omega))];rfl,hm.out.mod⟩
  refine(gL hn _).mono ?_;rintro e w1 ⟨rfl,hm⟩;clear c1 c2;have hS:=zh (hS.out.then hm);have c1:=ae (hS.out.block 0 rfl);have c2:=ae (hS.out.block 1 rfl);clear hm;go_wp2_with fail;by_cases hs:0≤size∧size≤1048576
  rotate_left
  ·refine(gM hs _).mono ?_;rintro e w1 ⟨rfl,hm⟩;have hm:=zh (hS.out.then hm);clear c1 c2;go_wp2_with fail;go_ret;exact⟨by rw[cF (fun h=>hs (by unfold bE at h;simp only at h;omega))];rfl,hm.out.mod⟩
  refine(gL hs _).mono ?_;rintro e w1 ⟨rfl,hm⟩;clear c1 c2;have hS:=zh (hS.out.then hm);have c1:=ae (hS.out.block 0 rfl);have c2:=ae (hS.out.block 1 rfl);clear hm;go_wp2_with fail;by_cases hc:0≤cap∧cap≤65536
  rotate_left
  ·refine(gM hc _).mono ?_;rintro e w1 ⟨rfl,hm⟩;have hm:=zh (hS.out.then hm);clear c1 c2;go_wp2_with fail;go_ret;exact⟨by rw[cF (fun h=>hc (by unfold bE at h;simp only at h;omega))];rfl,hm.out.mod⟩
  refine(gL hc _).mono ?_;rintro e w1 ⟨rfl,hm⟩;clear c1 c2;have hS:=zh (hS.out.then hm);have c1:=ae (hS.out.block 0 rfl);have c2:=ae (hS.out.block 1 rfl);clear hm;go_wp2_with fail;go_ret;have hf1:=hf.out;exact⟨by rw[cF (fun h=>by unfold bE at h;simp only at h;omega)];rfl,hS.out.mod⟩
 have e1:decide (b<0)=false:=by simp[hb]
 by_cases ho:o<0
 ·have e2:decide (o<0)=true:=by simp[ho]
  go_enter Tryz.func29,Tryz.ntmps29;go_wp2_with fail;by_cases hn:0≤n∧n≤4096
  rotate_left
  ·refine(gM hn _).mono ?_;rintro e w1 ⟨rfl,hm⟩;have hm:=zh (hS.out.then hm);clear c1 c2;go_wp2_with fail;go_ret;exact⟨by rw[cF (fun h=>hn (by unfold bE at h;simp only at h;omega))];rfl,hm.out.mod⟩
  refine(gL hn _).mono ?_;rintro e w1 ⟨rfl,hm⟩;clear c1 c2;have hS:=zh (hS.out.then hm);have c1:=ae (hS.out.block 0 rfl);have c2:=ae (hS.out.block 1 rfl);clear hm;go_wp2_with fail;by_cases hs:0≤size∧size≤1048576
  rotate_left
  ·refine(gM hs _).mono ?_;rintro e w1 ⟨rfl,hm⟩;have hm:=zh (hS.out.then hm);clear c1 c2;go_wp2_with fail;go_ret;exact⟨by rw[cF (fun h=>hs (by unfold bE at h;simp only at h;omega))];rfl,hm.out.mod⟩
  refine(gL hs _).mono ?_;rintro e w1 ⟨rfl,hm⟩;clear c1 c2;have hS:=zh (hS.out.then hm);have c1:=ae (hS.out.block 0 rfl);have c2:=ae (hS.out.block 1 rfl);clear hm;go_wp2_with fail;by_cases hc:0≤cap∧cap≤65536
  rotate_left
  ·refine(gM hc _).mono ?_;rintro e w1 ⟨rfl,hm⟩;have hm:=zh (hS.out.then hm);clear c1 c2;go_wp2_with fail;go_ret;exact⟨by rw[cF (fun h=>hc (by unfold bE at h;simp only at h;omega))];rfl,hm.out.mod⟩
  refine(gL hc _).mono ?_;rintro e w1 ⟨rfl,hm⟩;clear c1 c2;have hS:=zh (hS.out.then hm);have c1:=ae (hS.out.block 0 rfl);have c2:=ae (hS.out.block 1 rfl);clear hm;go_wp2_with fail;go_ret;have hf1:=hf.out;exact⟨by rw[cF (fun h=>by unfold bE at h;simp only at h;omega)];rfl,hS.out.mod⟩
 have e2:decide (o<0)=false:=by simp[ho]
 by_cases hr:r<0
 ·have e3:decide (r<0)=true:=by simp[hr]
  go_enter Tryz.func29,Tryz.ntmps29;go_wp2_with fail;by_cases hn:0≤n∧n≤4096
  rotate_left
  ·refine(gM hn _).mono ?_;rintro e w1 ⟨rfl,hm⟩;have hm:=zh (hS.out.then hm);clear c1 c2;go_wp2_with fail;go_ret;exact⟨by rw[cF (fun h=>hn (by unfold bE at h;simp only at h;omega))];rfl,hm.out.mod⟩
  refine(gL hn _).mono ?_;rintro e w1 ⟨rfl,hm⟩;clear c1 c2;have hS:=zh (hS.out.then hm);have c1:=ae (hS.out.block 0 rfl);have c2:=ae (hS.out.block 1 rfl);clear hm;go_wp2_with fail;by_cases hs:0≤size∧size≤1048576
  rotate_left
  ·refine(gM hs _).mono ?_;rintro e w1 ⟨rfl,hm⟩;have hm:=zh (hS.out.then hm);clear c1 c2;go_wp2_with fail;go_ret;exact⟨by rw[cF (fun h=>hs (by unfold bE at h;simp only at h;omega))];rfl,hm.out.mod⟩
  refine(gL hs _).mono ?_;rintro e w1 ⟨rfl,hm⟩;clear c1 c2;have hS:=zh (hS.out.then hm);have c1:=ae (hS.out.block 0 rfl);have c2:=ae (hS.out.block 1 rfl);clear hm;go_wp2_with fail;by_cases hc:0≤cap∧cap≤65536
  rotate_left
  ·refine(gM hc _).mono ?_;rintro e w1 ⟨rfl,hm⟩;have hm:=zh (hS.out.then hm);clear c1 c2;go_wp2_with fail;go_ret;exact⟨by rw[cF (fun h=>hc (by unfold bE at h;simp only at h;omega))];rfl,hm.out.mod⟩
  refine(gL hc _).mono ?_;rintro e w1 ⟨rfl,hm⟩;clear c1 c2;have hS:=zh (hS.out.then hm);have c1:=ae (hS.out.block 0 rfl);have c2:=ae (hS.out.block 1 rfl);clear hm;go_wp2_with fail;go_ret;have hf1:=hf.out;exact⟨by rw[cF (fun h=>by unfold bE at h;simp only at h;omega)];rfl,hS.out.mod⟩
 have e3:decide (r<0)=false:=by simp[hr]
 go_enter Tryz.func29,Tryz.ntmps29;go_wp2_with fail;by_cases hn:0≤n∧n≤4096
 rotate_left
 ·refine(gM hn _).mono ?_;rintro e w1 ⟨rfl,hm⟩;have hm:=zh (hS.out.then hm);clear c1 c2;go_wp2_with fail;go_ret;exact⟨by rw[cF (fun h=>hn (by unfold bE at h;simp only at h;omega))];rfl,hm.out.mod⟩
 refine(gL hn _).mono ?_;rintro e w1 ⟨rfl,hm⟩;clear c1 c2;have hS:=zh (hS.out.then hm);have c1:=ae (hS.out.block 0 rfl);have c2:=ae (hS.out.block 1 rfl);clear hm;go_wp2_with fail;by_cases hs:0≤size∧size≤1048576
 rotate_left
 ·refine(gM hs _).mono ?_;rintro e w1 ⟨rfl,hm⟩;have hm:=zh (hS.out.then hm);clear c1 c2;go_wp2_with fail;go_ret;exact⟨by rw[cF (fun h=>hs (by unfold bE at h;simp only at h;omega))];rfl,hm.out.mod⟩
 refine(gL hs _).mono ?_;rintro e w1 ⟨rfl,hm⟩;clear c1 c2;have hS:=zh (hS.out.then hm);have c1:=ae (hS.out.block 0 rfl);have c2:=ae (hS.out.block 1 rfl);clear hm;go_wp2_with fail;by_cases hc:0≤cap∧cap≤65536
 rotate_left
 ·refine(gM hc _).mono ?_;rintro e w1 ⟨rfl,hm⟩;have hm:=zh (hS.out.then hm);clear c1 c2;go_wp2_with fail;go_ret;exact⟨by rw[cF (fun h=>hc (by unfold bE at h;simp only at h;omega))];rfl,hm.out.mod⟩
 refine(gL hc _).mono ?_;rintro e w1 ⟨rfl,hm⟩;clear c1 c2;have hS:=zh (hS.out.then hm);have c1:=ae (hS.out.block 0 rfl);have c2:=ae (hS.out.block 1 rfl);clear hm;go_wp2_with fail;by_cases hfr:1≤cA∧cA≤256
 rotate_left
 ·refine(gM hfr _).mono ?_;rintro e w1 ⟨rfl,hm⟩;have hm:=zh (hS.out.then hm);clear c1 c2;go_wp2_with fail;go_ret;exact⟨by rw[cF (fun h=>hfr (by unfold bE at h;simp only at h;omega))];rfl,hm.out.mod⟩
 refine(gL hfr _).mono ?_;rintro e w1 ⟨rfl,hm⟩;clear c1 c2;have hS:=zh (hS.out.then hm);have c1:=ae (hS.out.block 0 rfl);have c2:=ae (hS.out.block 1 rfl);clear hm;go_wp2_with fail;by_cases hk:0≤stack∧stack≤16384
 rotate_left
 ·refine(gM hk _).mono ?_;rintro e w1 ⟨rfl,hm⟩;have hm:=zh (hS.out.then hm);clear c1 c2;go_wp2_with fail;go_ret;exact⟨by rw[cF (fun h=>hk (by unfold bE at h;simp only at h;omega))];rfl,hm.out.mod⟩
 refine(gL hk _).mono ?_;rintro e w1 ⟨rfl,hm⟩;clear c1 c2;have hS:=zh (hS.out.then hm);have c1:=ae (hS.out.block 0 rfl);have c2:=ae (hS.out.block 1 rfl);clear hm;go_wp2_with fail;go_ret;have hf1:=hf.out;exact⟨by rw[qu (by unfold bE;simp only;omega)];rfl,hS.out.mod⟩
theorem r9 (c:Cf) (w:World):Calls Tryz.prog 91 #[.agg (iA c)] w fun e w'=>e=.returned (.int .i64 (qS c))∧Mod [] w w':=by
 obtain⟨n,size,first,cap,b,o,r,cA,stack⟩:=c;unfold iA;simp only;have hm:=zh ((Mod.refl [] w).alloc (.cells #[.int .i64 n,.int .i64 size,.int .u32 first,.int .i64 cap,.int .i64 b,.int .i64 o,.int .i64 r,.int .i64 cA,.int .i64 stack] 47));by_cases h1:n<0
 ·have e1:decide (n<0)=true:=by simp;omega
  go_enter Tryz.func91,Tryz.ntmps91;go_wp2_with fail;go_ret;exact⟨by rw[cF (fun h=>by unfold bE at h;simp only at h;omega)];rfl,hm.out⟩
 have q1:decide (n<0)=false:=by simp;omega
 by_cases h2:n>4096
 ·have e1:decide (4096<n)=true:=by simp;omega
  go_enter Tryz.func91,Tryz.ntmps91;go_wp2_with fail;go_ret;exact⟨by rw[cF (fun h=>by unfold bE at h;simp only at h;omega)];rfl,hm.out⟩
 have q2:decide (4096<n)=false:=by simp;omega
 by_cases h3:size<0
 ·have e1:decide (size<0)=true:=by simp;omega
  go_enter Tryz.func91,Tryz.ntmps91;go_wp2_with fail;go_ret;exact⟨by rw[cF (fun h=>by unfold bE at h;simp only at h;omega)];rfl,hm.out⟩
 have q3:decide (size<0)=false:=by simp;omega
 by_cases h4:size>1048576
 ·have e1:decide (1048576<size)=true:=by simp;omega
  go_enter Tryz.func91,Tryz.ntmps91;go_wp2_with fail;go_ret;exact⟨by rw[cF (fun h=>by unfold bE at h;simp only at h;omega)];rfl,hm.out⟩
 have q4:decide (1048576<size)=false:=by simp;omega
 by_cases h5:first=0
 ·subst h5;go_enter Tryz.func91,Tryz.ntmps91;go_wp2_with fail;go_ret;exact⟨by rw[cF (fun h=>by unfold bE at h;simp only at h;omega)];rfl,hm.out⟩
 have q5:(first==0)=false:=by simp[h5]
 have h5:=zh h5;by_cases h6:cap<0
 ·have e1:decide (cap<0)=true:=by simp;omega
  go_enter Tryz.func91,Tryz.ntmps91;go_wp2_with fail;go_ret;exact⟨by rw[cF (fun h=>by unfold bE at h;simp only at h;omega)];rfl,hm.out⟩
 have q6:decide (cap<0)=false:=by simp;omega
 by_cases h7:cap>65536
 ·have e1:decide (65536<cap)=true:=by simp;omega
  go_enter Tryz.func91,Tryz.ntmps91;go_wp2_with fail;go_ret;exact⟨by rw[cF (fun h=>by unfold bE at h;simp only at h;omega)];rfl,hm.out⟩
 have q7:decide (65536<cap)=false:=by simp;omega
 by_cases h8:b<0
 ·have e1:decide (b<0)=true:=by simp;omega
  go_enter Tryz.func91,Tryz.ntmps91;go_wp2_with fail;go_ret;exact⟨by rw[cF (fun h=>by unfold bE at h;simp only at h;omega)];rfl,hm.out⟩
 have q8:decide (b<0)=false:=by simp;omega
 by_cases h9:o<0
 ·have e1:decide (o<0)=true:=by simp;omega
  go_enter Tryz.func91,Tryz.ntmps91;go_wp2_with fail;go_ret;exact⟨by rw[cF (fun h=>by unfold bE at h;simp only at h;omega)];rfl,hm.out⟩
 have q9:decide (o<0)=false:=by simp;omega
 by_cases h10:r<0
 ·have e1:decide (r<0)=true:=by simp;omega
  go_enter Tryz.func91,Tryz.ntmps91;go_wp2_with fail;go_ret;exact⟨by rw[cF (fun h=>by unfold bE at h;simp only at h;omega)];rfl,hm.out⟩
 have q10:decide (r<0)=false:=by simp;omega
 by_cases h11:cA<1
 ·have e1:decide (cA<1)=true:=by simp;omega
  go_enter Tryz.func91,Tryz.ntmps91;go_wp2_with fail;go_ret;exact⟨by rw[cF (fun h=>by unfold bE at h;simp only at h;omega)];rfl,hm.out⟩
 have q11:decide (cA<1)=false:=by simp;omega
 by_cases h12:cA>256
 ·have e1:decide (256<cA)=true:=by simp;omega
  go_enter Tryz.func91,Tryz.ntmps91;go_wp2_with fail;go_ret;exact⟨by rw[cF (fun h=>by unfold bE at h;simp only at h;omega)];rfl,hm.out⟩
 have q12:decide (256<cA)=false:=by simp;omega
 by_cases h13:stack<0
 ·have e1:decide (stack<0)=true:=by simp;omega
  go_enter Tryz.func91,Tryz.ntmps91;go_wp2_with fail;go_ret;exact⟨by rw[cF (fun h=>by unfold bE at h;simp only at h;omega)];rfl,hm.out⟩
 have q13:decide (stack<0)=false:=by simp;omega
 by_cases h14:stack>16384
 ·have e1:decide (16384<stack)=true:=by simp;omega
  go_enter Tryz.func91,Tryz.ntmps91;go_wp2_with fail;go_ret;exact⟨by rw[cF (fun h=>by unfold bE at h;simp only at h;omega)];rfl,hm.out⟩
 have q14:decide (16384<stack)=false:=by simp;omega
 go_enter Tryz.func91,Tryz.ntmps91;go_wp2_with fail;go_ret;have h15:=h5.out;exact⟨by rw[qu (by unfold bE;simp only;omega)];rfl,hm.out⟩
end Go.Proofs.YtdehaommhbjakaaGreat
