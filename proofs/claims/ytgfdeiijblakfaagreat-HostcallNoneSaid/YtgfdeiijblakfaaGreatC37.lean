/- Joined contracts. No conditions. -/
import Derived.Test.YtgfdeiijblakfaaGreatCS
import Derived.Test.YtgfdeiijblakfaaGreatC03
import Derived.Test.YtgfdeiijblakfaaGreatC06
import Derived.Test.YtgfdeiijblakfaaGreatC09
import Derived.Test.YtgfdeiijblakfaaGreatC15
import Derived.Test.YtgfdeiijblakfaaGreatC21
import Derived.Test.YtgfdeiijblakfaaGreatC31
import Derived.Test.YtgfdeiijblakfaaGreatC32
import Derived.Test.YtgfdeiijblakfaaGreatC33
import Derived.Test.YtgfdeiijblakfaaGreatC34
import Derived.Test.YtgfdeiijblakfaaGreatC35
import Derived.Test.YtgfdeiijblakfaaGreatC36
set_option maxHeartbeats 4000000
set_option maxRecDepth 20000
namespace Go.Proofs.YtgfdeiijblakfaaGreat
open Go Go.RowKit Go.Stg
section
variable {c:HC} {k:Nat} {s:HS}
theorem inv_act {p op h arg:Int} {r:Int×HS} (hI:HInv c k s) (hr:s.st p=1→HInv c (k+1) r.2) (ho:1≤op∧op≤11) (hh:s.st p=1→0≤h∧h≤18446744073709551615) (ha:0≤arg∧arg≤18446744073709551615) (he:s.st p=1→0≤r.1∧r.1≤29):HInv c (k+2) (act c s p op h arg r).2:=by
 unfold act;split
 ·exact hI.up (by omega)
 ·rename_i h1;have hst:s.st p=1:=Classical.byContradiction h1;split
  ·exact(inv_miss hI p).up (by omega)
  ·exact inv_log (hr hst) ⟨hI.alive hst,.inl ho,hh hst,ha,he hst⟩
theorem u64_range (n:Int):0≤u64 n∧u64 n≤18446744073709551615:=by unfold u64;omega
theorem inv_allocS (hc:c.Ok) (hI:HInv c k s) {p:Int} (hp:s.st p=1) (tag d:Int):HInv c k (allocS c s p tag d):=by
 by_cases h:allocE c s p tag=0
 ·exact(inv_alloc hc hI hp h).2.inv
 ·rw[(allocE_bad h d).1];exact hI
theorem issH_range (hc:c.Ok) (hI:HInv c k s) {p:Int} (hp:s.st p=1) {tag:Int} (d:Int) (h:allocE c s p tag=0):0≤Tb.issH c.first s.T p tag d∧Tb.issH c.first s.T p tag d≤18446744073709551615:=by
 obtain⟨hok,hcm⟩:=inv_alloc hc hI (d:=d) hp h;obtain⟨hjn,hd,hl,he,hoth⟩:=iss_slot hI.tin hc.f1 hc.f2 (allocX c s tag).1 (allocX c s tag).2 d hok;have hT:(allocS c s p tag d).T=Tb.issT c.first s.T p tag (allocX c s tag).1 (allocX c s tag).2 d:=by unfold allocS;rw[if_pos h]
 obtain⟨_,_,r⟩:=live_res hcm.inv.tin hjn hc.n (by rw[hT];exact hl) hc.f1;rw[hT,he]at r;unfold Tb.issH;rw[if_pos hok];exact r
theorem allocH_range (hc:c.Ok) (hI:HInv c k s) {p:Int} (hp:s.st p=1) (tag d:Int):0≤allocH c s p tag d∧allocH c s p tag d≤18446744073709551615:=by
 unfold allocH;split
 ·rename_i h;exact issH_range hc hI hp d h
 ·omega
theorem inv_start (hI:HInv c k s) (p:Int):HInv c (k+1) (startD s p).2:=by
 unfold startD;split
 ·exact hI.up (by omega)
 ·rename_i hr;split
  ·exact hI.up (by omega)
  ·rename_i h0;have hst:s.st p=0:=Classical.byContradiction h0;have hu:=inv_ev hI (e:=⟨p,32,0,0,0⟩) ⟨by simp only;omega,.inr (.inl rfl),by simp only;omega,by simp only;omega,by simp only;omega⟩;have hne:∀q,s.st q=1→setI s.st p 1 q=1:=fun q hq=>by unfold setI;split<;>first|rfl|exact hq
   refine⟨hu.tin,hu.lin,hu.llen,hu.rok,hu.rlen,hu.evk,hu.evok,hu.missk,hu.uok,fun e he=> ?_,hu.mlen,hu.mem,hu.memB,hu.dead,fun b hb=> ?_,hu.lim,fun q=> ?_⟩
   ·obtain⟨k1,k2,k3⟩:=hI.ent e he;exact⟨hne _ k1,k2,k3⟩
   ·obtain⟨k1,k2⟩:=hI.bor b hb;exact⟨hne _ k1,k2⟩
   ·show setI s.st p 1 q=0∨(_∧(setI s.st p 1 q=1∨setI s.st p 1 q=2));unfold setI;by_cases e:q=p
    ·rw[if_pos e,e];exact .inr ⟨by omega,.inl rfl⟩
    ·rw[if_neg e];exact hI.st q
theorem inv_def (hI:HInv c k s) (t:Ty.Ty):HInv c k (defS s t):=by
 have hR:s.R<+:Ty.regN s.R t:=by
  unfold Ty.regN
  repeat' split
  all_goals first|exact List.prefix_refl _|exact List.prefix_append _ _
 have hlk:∀tag:Int,1≤tag∧tag≤s.R.length→Ty.lookT (Ty.regN s.R t) tag=Ty.lookT s.R tag:=fun tag h=>by
  obtain⟨z,hz⟩:=hR;rw[←hz];unfold Ty.lookT;rw[if_pos (by simp only[List.length_append];omega),if_pos h,List.getD_eq_getElem?_getD,List.getD_eq_getElem?_getD,List.getElem?_append_left (by omega)]
 have hsz:∀tag:Int,1≤tag∧tag≤s.R.length→sizeTag (defS s t) tag=sizeTag s tag:=fun tag h=>by
  unfold sizeTag tyTag;rw[show(defS s t).R=Ty.regN s.R t from rfl,hlk tag h]
 have hlen:=hR.length_le;have g1:∀x∈Ty.regN s.R t,Ty.TyOk x:=by
  unfold Ty.regN;split
  ·rename_i h;intro x hx;rcases List.mem_append.1 hx with hx|hx
   ·exact hI.rok x hx
   ·rw[List.mem_singleton.1 hx];exact h.1
  ·exact hI.rok
 have g2:(Ty.regN s.R t).length≤255:=by
  have:=hI.rlen;unfold Ty.regN;split
  ·simp only[List.length_append,List.length_cons,List.length_nil];omega
  ·exact this
 refine⟨hI.tin,hI.lin,hI.llen,g1,g2,hI.evk,hI.evok,hI.missk,hI.uok,fun e he=> ?_,hI.mlen,fun j hj hl=> ?_,hI.memB,hI.dead,hI.bor,hI.lim,hI.st⟩
 ·obtain⟨k1,k2,k3⟩:=hI.ent e he;refine⟨k1,⟨k2.1,?_⟩,?_⟩
  ·show e.tag≤(Ty.regN s.R t).length;omega
  ·rw[hsz _ k2];exact k3
 ·show((memH s j).length:Int)=sizeTag (defS s t) (Tb.entN s.T.E j).tag;rw[hsz _ (hI.ent _ (liveE_mem hj hl)).2.1];exact hI.mem j hj hl
theorem inv_opAlloc (hc:c.Ok) (hI:HInv c k s) (p tag d:Int):HInv c (k+2) (opAlloc c s p tag d).2:=
 inv_act hI (fun h=>(inv_allocS hc hI h tag d).up (by omega)) (by omega) (fun h=>allocH_range hc hI h tag d) (u64_range _) fun _=>allocE_range p tag
end
end Go.Proofs.YtgfdeiijblakfaaGreat
namespace Go.Proofs.YtgfdeiijblakfaaGreat
open Go Go.RowKit Go.Stg
structure Cf where
 n:Int
 size:Int
 first:Int
 cap:Int
 b:Int
 o:Int
 r:Int
 frames:Int
 stack:Int
def cfA (c:Cf):Array Value:=#[.int .i64 c.n,.int .i64 c.size,.int .u32 c.first,.int .i64 c.cap,.int .i64 c.b,.int .i64 c.o,.int .i64 c.r,.int .i64 c.frames,.int .i64 c.stack]
def cfOk (c:Cf):Prop:=(0≤c.n∧c.n≤4096)∧(0≤c.size∧c.size≤1048576)∧c.first≠0∧(0≤c.cap∧c.cap≤65536)∧0≤c.b∧0≤c.o∧0≤c.r∧(1≤c.frames∧c.frames≤256)∧(0≤c.stack∧c.stack≤16384)
instance (c:Cf):Decidable (cfOk c):=by unfold cfOk;infer_instance
def cfE (c:Cf):Int:=if cfOk c then 0 else 1
theorem cfE_ok {c:Cf} (h:cfOk c):cfE c=0:=if_pos h
theorem cfE_bad {c:Cf} (h:¬cfOk c):cfE c=1:=if_neg h
theorem inr_yes {n l m:Int} (h:l≤n∧n≤m) (w:World):Calls Tryz.prog 22 #[.int .i64 n,.int .i64 l,.int .i64 m] w fun e w'=>e=.returned (.bool true)∧Mod [] w w':=by
 have:=inrange_ok n l m w
 rwa [show(decide (l≤n)&&decide (n≤m))=true by simp[h.1,h.2]]at this
theorem inr_no {n l m:Int} (h:¬(l≤n∧n≤m)) (w:World):Calls Tryz.prog 22 #[.int .i64 n,.int .i64 l,.int .i64 m] w fun e w'=>e=.returned (.bool false)∧Mod [] w w':=by
 have:=inrange_ok n l m w
 rwa [show(decide (l≤n)&&decide (n≤m))=false by rw[Bool.and_eq_false_iff,decide_eq_false_iff_not,decide_eq_false_iff_not];omega]at this
theorem check_ok (c:Cf) (w:World):Calls Tryz.prog 12 #[.agg (cfA c)] w fun e w'=>e=.returned (.int .i64 (cfE c))∧Mod [] w w':=by
 obtain⟨n,size,first,cap,b,o,r,frames,stack⟩:=c;unfold cfA;simp only;have hS:=(((Scene.empty w).alloc (.cells #[.int .i64 n,.int .i64 size,.int .u32 first,.int .i64 cap,.int .i64 b,.int .i64 o,.int .i64 r,.int .i64 frames,.int .i64 stack] 31)).alloc (.cells #[.int .i64 b,.int .i64 o,.int .i64 r] 29));rw[World.size_alloc]at hS;have hS:=Lib.hid hS;have c1:=trivial;have c2:=trivial;by_cases hf:first=0
 ·subst hf;have hf:=Lib.hid trivial;go_enter Tryz.func12,Tryz.ntmps12;go_wp2_with fail;by_cases hn:0≤n∧n≤4096
  rotate_left
  ·refine(inr_no hn _).mono ?_;rintro e w1 ⟨rfl,hm⟩;have hm:=Lib.hid (hS.out.then hm);clear c1 c2;go_wp2_with fail;go_ret;exact⟨by rw[cfE_bad (fun h=>hn (by unfold cfOk at h;simp only at h;omega))];rfl,hm.out.mod⟩
  refine(inr_yes hn _).mono ?_;rintro e w1 ⟨rfl,hm⟩;clear c1 c2;have hS:=Lib.hid (hS.out.then hm);have c1:=cells_of (hS.out.block 0 rfl);have c2:=cells_of (hS.out.block 1 rfl);clear hm;go_wp2_with fail;by_cases hs:0≤size∧size≤1048576
  rotate_left
  ·refine(inr_no hs _).mono ?_;rintro e w1 ⟨rfl,hm⟩;have hm:=Lib.hid (hS.out.then hm);clear c1 c2;go_wp2_with fail;go_ret;exact⟨by rw[cfE_bad (fun h=>hs (by unfold cfOk at h;simp only at h;omega))];rfl,hm.out.mod⟩
  refine(inr_yes hs _).mono ?_;rintro e w1 ⟨rfl,hm⟩;clear c1 c2;have hS:=Lib.hid (hS.out.then hm);have c1:=cells_of (hS.out.block 0 rfl);have c2:=cells_of (hS.out.block 1 rfl);clear hm;go_wp2_with fail;go_ret;have hf1:=hf.out;exact⟨by rw[cfE_bad (fun h=>by unfold cfOk at h;simp only at h;omega)];rfl,hS.out.mod⟩
 have e0:(first==0)=false:=by simp[hf]
 have hf:=Lib.hid hf;by_cases hb:b<0
 ·have e1:decide (b<0)=true:=by simp[hb]
  go_enter Tryz.func12,Tryz.ntmps12;go_wp2_with fail;by_cases hn:0≤n∧n≤4096
  rotate_left
  ·refine(inr_no hn _).mono ?_;rintro e w1 ⟨rfl,hm⟩;have hm:=Lib.hid (hS.out.then hm);clear c1 c2;go_wp2_with fail;go_ret;exact⟨by rw[cfE_bad (fun h=>hn (by unfold cfOk at h;simp only at h;omega))];rfl,hm.out.mod⟩
  refine(inr_yes hn _).mono ?_;rintro e w1 ⟨rfl,hm⟩;clear c1 c2;have hS:=Lib.hid (hS.out.then hm);have c1:=cells_of (hS.out.block 0 rfl);have c2:=cells_of (hS.out.block 1 rfl);clear hm;go_wp2_with fail;by_cases hs:0≤size∧size≤1048576
  rotate_left
  ·refine(inr_no hs _).mono ?_;rintro e w1 ⟨rfl,hm⟩;have hm:=Lib.hid (hS.out.then hm);clear c1 c2;go_wp2_with fail;go_ret;exact⟨by rw[cfE_bad (fun h=>hs (by unfold cfOk at h;simp only at h;omega))];rfl,hm.out.mod⟩
  refine(inr_yes hs _).mono ?_;rintro e w1 ⟨rfl,hm⟩;clear c1 c2;have hS:=Lib.hid (hS.out.then hm);have c1:=cells_of (hS.out.block 0 rfl);have c2:=cells_of (hS.out.block 1 rfl);clear hm;go_wp2_with fail;by_cases hc:0≤cap∧cap≤65536
  rotate_left
  ·refine(inr_no hc _).mono ?_;rintro e w1 ⟨rfl,hm⟩;have hm:=Lib.hid (hS.out.then hm);clear c1 c2;go_wp2_with fail;go_ret;exact⟨by rw[cfE_bad (fun h=>hc (by unfold cfOk at h;simp only at h;omega))];rfl,hm.out.mod⟩
  refine(inr_yes hc _).mono ?_;rintro e w1 ⟨rfl,hm⟩;clear c1 c2;have hS:=Lib.hid (hS.out.then hm);have c1:=cells_of (hS.out.block 0 rfl);have c2:=cells_of (hS.out.block 1 rfl);clear hm;go_wp2_with fail;go_ret;have hf1:=hf.out;exact⟨by rw[cfE_bad (fun h=>by unfold cfOk at h;simp only at h;omega)];rfl,hS.out.mod⟩
 have e1:decide (b<0)=false:=by simp[hb]
 by_cases ho:o<0
 ·have e2:decide (o<0)=true:=by simp[ho]
  go_enter Tryz.func12,Tryz.ntmps12;go_wp2_with fail;by_cases hn:0≤n∧n≤4096
  rotate_left
  ·refine(inr_no hn _).mono ?_;rintro e w1 ⟨rfl,hm⟩;have hm:=Lib.hid (hS.out.then hm);clear c1 c2;go_wp2_with fail;go_ret;exact⟨by rw[cfE_bad (fun h=>hn (by unfold cfOk at h;simp only at h;omega))];rfl,hm.out.mod⟩
  refine(inr_yes hn _).mono ?_;rintro e w1 ⟨rfl,hm⟩;clear c1 c2;have hS:=Lib.hid (hS.out.then hm);have c1:=cells_of (hS.out.block 0 rfl);have c2:=cells_of (hS.out.block 1 rfl);clear hm;go_wp2_with fail;by_cases hs:0≤size∧size≤1048576
  rotate_left
  ·refine(inr_no hs _).mono ?_;rintro e w1 ⟨rfl,hm⟩;have hm:=Lib.hid (hS.out.then hm);clear c1 c2;go_wp2_with fail;go_ret;exact⟨by rw[cfE_bad (fun h=>hs (by unfold cfOk at h;simp only at h;omega))];rfl,hm.out.mod⟩
  refine(inr_yes hs _).mono ?_;rintro e w1 ⟨rfl,hm⟩;clear c1 c2;have hS:=Lib.hid (hS.out.then hm);have c1:=cells_of (hS.out.block 0 rfl);have c2:=cells_of (hS.out.block 1 rfl);clear hm;go_wp2_with fail;by_cases hc:0≤cap∧cap≤65536
  rotate_left
  ·refine(inr_no hc _).mono ?_;rintro e w1 ⟨rfl,hm⟩;have hm:=Lib.hid (hS.out.then hm);clear c1 c2;go_wp2_with fail;go_ret;exact⟨by rw[cfE_bad (fun h=>hc (by unfold cfOk at h;simp only at h;omega))];rfl,hm.out.mod⟩
  refine(inr_yes hc _).mono ?_;rintro e w1 ⟨rfl,hm⟩;clear c1 c2;have hS:=Lib.hid (hS.out.then hm);have c1:=cells_of (hS.out.block 0 rfl);have c2:=cells_of (hS.out.block 1 rfl);clear hm;go_wp2_with fail;go_ret;have hf1:=hf.out;exact⟨by rw[cfE_bad (fun h=>by unfold cfOk at h;simp only at h;omega)];rfl,hS.out.mod⟩
 have e2:decide (o<0)=false:=by simp[ho]
 by_cases hr:r<0
 ·have e3:decide (r<0)=true:=by simp[hr]
  go_enter Tryz.func12,Tryz.ntmps12;go_wp2_with fail;by_cases hn:0≤n∧n≤4096
  rotate_left
  ·refine(inr_no hn _).mono ?_;rintro e w1 ⟨rfl,hm⟩;have hm:=Lib.hid (hS.out.then hm);clear c1 c2;go_wp2_with fail;go_ret;exact⟨by rw[cfE_bad (fun h=>hn (by unfold cfOk at h;simp only at h;omega))];rfl,hm.out.mod⟩
  refine(inr_yes hn _).mono ?_;rintro e w1 ⟨rfl,hm⟩;clear c1 c2;have hS:=Lib.hid (hS.out.then hm);have c1:=cells_of (hS.out.block 0 rfl);have c2:=cells_of (hS.out.block 1 rfl);clear hm;go_wp2_with fail;by_cases hs:0≤size∧size≤1048576
  rotate_left
  ·refine(inr_no hs _).mono ?_;rintro e w1 ⟨rfl,hm⟩;have hm:=Lib.hid (hS.out.then hm);clear c1 c2;go_wp2_with fail;go_ret;exact⟨by rw[cfE_bad (fun h=>hs (by unfold cfOk at h;simp only at h;omega))];rfl,hm.out.mod⟩
  refine(inr_yes hs _).mono ?_;rintro e w1 ⟨rfl,hm⟩;clear c1 c2;have hS:=Lib.hid (hS.out.then hm);have c1:=cells_of (hS.out.block 0 rfl);have c2:=cells_of (hS.out.block 1 rfl);clear hm;go_wp2_with fail;by_cases hc:0≤cap∧cap≤65536
  rotate_left
  ·refine(inr_no hc _).mono ?_;rintro e w1 ⟨rfl,hm⟩;have hm:=Lib.hid (hS.out.then hm);clear c1 c2;go_wp2_with fail;go_ret;exact⟨by rw[cfE_bad (fun h=>hc (by unfold cfOk at h;simp only at h;omega))];rfl,hm.out.mod⟩
  refine(inr_yes hc _).mono ?_;rintro e w1 ⟨rfl,hm⟩;clear c1 c2;have hS:=Lib.hid (hS.out.then hm);have c1:=cells_of (hS.out.block 0 rfl);have c2:=cells_of (hS.out.block 1 rfl);clear hm;go_wp2_with fail;go_ret;have hf1:=hf.out;exact⟨by rw[cfE_bad (fun h=>by unfold cfOk at h;simp only at h;omega)];rfl,hS.out.mod⟩
 have e3:decide (r<0)=false:=by simp[hr]
 go_enter Tryz.func12,Tryz.ntmps12;go_wp2_with fail;by_cases hn:0≤n∧n≤4096
 rotate_left
 ·refine(inr_no hn _).mono ?_;rintro e w1 ⟨rfl,hm⟩;have hm:=Lib.hid (hS.out.then hm);clear c1 c2;go_wp2_with fail;go_ret;exact⟨by rw[cfE_bad (fun h=>hn (by unfold cfOk at h;simp only at h;omega))];rfl,hm.out.mod⟩
 refine(inr_yes hn _).mono ?_;rintro e w1 ⟨rfl,hm⟩;clear c1 c2;have hS:=Lib.hid (hS.out.then hm);have c1:=cells_of (hS.out.block 0 rfl);have c2:=cells_of (hS.out.block 1 rfl);clear hm;go_wp2_with fail;by_cases hs:0≤size∧size≤1048576
 rotate_left
 ·refine(inr_no hs _).mono ?_;rintro e w1 ⟨rfl,hm⟩;have hm:=Lib.hid (hS.out.then hm);clear c1 c2;go_wp2_with fail;go_ret;exact⟨by rw[cfE_bad (fun h=>hs (by unfold cfOk at h;simp only at h;omega))];rfl,hm.out.mod⟩
 refine(inr_yes hs _).mono ?_;rintro e w1 ⟨rfl,hm⟩;clear c1 c2;have hS:=Lib.hid (hS.out.then hm);have c1:=cells_of (hS.out.block 0 rfl);have c2:=cells_of (hS.out.block 1 rfl);clear hm;go_wp2_with fail;by_cases hc:0≤cap∧cap≤65536
 rotate_left
 ·refine(inr_no hc _).mono ?_;rintro e w1 ⟨rfl,hm⟩;have hm:=Lib.hid (hS.out.then hm);clear c1 c2;go_wp2_with fail;go_ret;exact⟨by rw[cfE_bad (fun h=>hc (by unfold cfOk at h;simp only at h;omega))];rfl,hm.out.mod⟩
 refine(inr_yes hc _).mono ?_;rintro e w1 ⟨rfl,hm⟩;clear c1 c2;have hS:=Lib.hid (hS.out.then hm);have c1:=cells_of (hS.out.block 0 rfl);have c2:=cells_of (hS.out.block 1 rfl);clear hm;go_wp2_with fail;by_cases hfr:1≤frames∧frames≤256
 rotate_left
 ·refine(inr_no hfr _).mono ?_;rintro e w1 ⟨rfl,hm⟩;have hm:=Lib.hid (hS.out.then hm);clear c1 c2;go_wp2_with fail;go_ret;exact⟨by rw[cfE_bad (fun h=>hfr (by unfold cfOk at h;simp only at h;omega))];rfl,hm.out.mod⟩
 refine(inr_yes hfr _).mono ?_;rintro e w1 ⟨rfl,hm⟩;clear c1 c2;have hS:=Lib.hid (hS.out.then hm);have c1:=cells_of (hS.out.block 0 rfl);have c2:=cells_of (hS.out.block 1 rfl);clear hm;go_wp2_with fail;by_cases hk:0≤stack∧stack≤16384
 rotate_left
 ·refine(inr_no hk _).mono ?_;rintro e w1 ⟨rfl,hm⟩;have hm:=Lib.hid (hS.out.then hm);clear c1 c2;go_wp2_with fail;go_ret;exact⟨by rw[cfE_bad (fun h=>hk (by unfold cfOk at h;simp only at h;omega))];rfl,hm.out.mod⟩
 refine(inr_yes hk _).mono ?_;rintro e w1 ⟨rfl,hm⟩;clear c1 c2;have hS:=Lib.hid (hS.out.then hm);have c1:=cells_of (hS.out.block 0 rfl);have c2:=cells_of (hS.out.block 1 rfl);clear hm;go_wp2_with fail;go_ret;have hf1:=hf.out;exact⟨by rw[cfE_ok (by unfold cfOk;simp only;omega)];rfl,hS.out.mod⟩
end Go.Proofs.YtgfdeiijblakfaaGreat
namespace Go.Proofs.YtgfdeiijblakfaaGreat
open Go Go.RowKit Go.Stg
section
variable {P:Program} {ops:Array Oper} {I:World→Prop} {Out:Prop} {Q:Act→World→Prop}
theorem eff_calls {Out:Prop} (f:FuncId) (args:Array Value) (V:Value→Prop) (C':Value→World→Prop) {o:Oper} {C:World→Prop} {a:Act} {K:(World→Prop)→Act→Prop} {asz:Array Operand} {ts:Array TypeId}
  (hop:o.op=.call ⟨.value (.func f),asz,ts⟩) (hcall:∀(args:Array Value) w,(callFunc f args).run P w=.ok (.enter f args) w) (hargs:(asz.toList.map a.eval).toArray=args) (hV:∃v,V v)
  (hc:∀w,C w→Calls P f args w fun e w'=>∃v,e=.returned v∧V v∧C' v w') (hI:∀v w,C' v w→I w)
  (h:∀v,V v→K (C' v) (a.put o.dst v)):∃(V:Value→Prop) (R:Value→World→Prop),(∃v,V v)∧(∀w,C w→gives P o a w Out R)∧(∀v w,R v w→V v∧I w)∧∀v,V v→K (R v) (a.put o.dst v):=by
 refine⟨V,fun u w=>V u∧C' u w,hV,fun w hC=> ?_,fun u w h1=>⟨h1.1,hI u w h1.2⟩,fun u hu=> ?_⟩
 ·unfold gives;rw[run_go hop rfl hcall w,hargs];exact(hc w hC).mono fun e w' ⟨v,h1,h2,h3⟩=>by subst h1;exact⟨h2,h3⟩
 ·have e:(fun w=>V u∧C' u w)=C' u:=by
   funext w;simp[hu]
  have h':=h u hu;rw[←e]at h';exact h'
theorem ptr_class {F:List Nat} {W:World} (D:Nat→List Comp) (b:Nat):(fun w'=>∃b',Value.pointer (some ⟨b,0,none⟩)=.pointer (some ⟨b',0,none⟩)∧Scene F W (D b') w')=fun w'=>Scene F W (D b) w':=by
 funext w';apply propext;constructor
 ·rintro⟨b',e,h⟩;cases e;exact h
 ·exact fun h=>⟨b,rfl,h⟩
theorem stage_made {F:List Nat} {W:World} {cs:List Comp} (D:Nat→List Comp) (f:FuncId) (args:Array Value) {o:Oper} {rest:List Oper} {a:Act} {asx:Array Operand} {ts:Array TypeId}
  (hop:o.op=.call ⟨.value (.func f),asx,ts⟩) (hcall:∀(args:Array Value) w,(callFunc f args).run P w=.ok (.enter f args) w)
  (hw:Region.wanted o (yielded ops a.tmps)=true) (hargs:(asx.toList.map a.eval).toArray=args) (hI:∀cs w,Scene F W cs w→I w)
  (hc:∀w,Scene F W cs w→Calls P f args w fun e w'=>∃b,e=.returned (.pointer (some ⟨b,0,none⟩))∧Scene F W (D b) w')
  (h:∀b,wpStage P ops I Out Q rest (fun w'=>Scene F W (D b) w') (a.put o.dst (.pointer (some ⟨b,0,none⟩)))):
  wpStage P ops I Out Q (o::rest) (fun w'=>Scene F W cs w') a:=by
 refine stage_call_any f args (fun v=>∃b,v=.pointer (some ⟨b,0,none⟩)) (fun v w'=>∃b,v=.pointer (some ⟨b,0,none⟩)∧Scene F W (D b) w') hop hcall hw hargs ⟨_,0,rfl⟩ (fun w hC=>(hc w hC).mono fun e w' ⟨b,he,hS⟩=>⟨_,he,⟨b,rfl⟩,b,rfl,hS⟩) (fun _ w ⟨_,_,h⟩=>hI _ w h) (fun v hv=> ?_);obtain⟨b,rfl⟩:=hv;rw[ptr_class D b];exact h b
theorem eff_made {F:List Nat} {W:World} {cs:List Comp} (D:Nat→List Comp) (f:FuncId) (args:Array Value) {o:Oper} {a:Act} {K:(World→Prop)→Act→Prop} {asx:Array Operand} {ts:Array TypeId}
  (hop:o.op=.call ⟨.value (.func f),asx,ts⟩) (hcall:∀(args:Array Value) w,(callFunc f args).run P w=.ok (.enter f args) w) (hargs:(asx.toList.map a.eval).toArray=args) (hI:∀cs w,Scene F W cs w→I w)
  (hc:∀w,Scene F W cs w→Calls P f args w fun e w'=>∃b,e=.returned (.pointer (some ⟨b,0,none⟩))∧Scene F W (D b) w')
  (h:∀b,K (fun w'=>Scene F W (D b) w') (a.put o.dst (.pointer (some ⟨b,0,none⟩)))):
  ∃(V:Value→Prop) (R:Value→World→Prop),(∃v,V v)∧(∀w,Scene F W cs w→gives P o a w Out R)∧(∀v w,R v w→V v∧I w)∧∀v,V v→K (R v) (a.put o.dst v):=by
 refine eff_calls f args (fun v=>∃b,v=.pointer (some ⟨b,0,none⟩)) (fun v w'=>∃b,v=.pointer (some ⟨b,0,none⟩)∧Scene F W (D b) w') hop hcall hargs ⟨_,0,rfl⟩ (fun w hC=>(hc w hC).mono fun e w' ⟨b,he,hS⟩=>⟨_,he,⟨b,rfl⟩,b,rfl,hS⟩) (fun _ w ⟨_,_,h⟩=>hI _ w h) (fun v hv=> ?_);obtain⟨b,rfl⟩:=hv;rw[ptr_class D b];exact h b
theorem stage_lay {F:List Nat} {W:World} {cs:List Comp} (v:Nat→Value) (ob:Obj) (CC:Nat→Comp) {o:Oper} {rest:List Oper} {a:Act}
  (hv:∀s s',v s=v s'→s=s') (hw:Region.wanted o (yielded ops a.tmps)=true) (he:eff o=true) (hI:∀cs w,Scene F W cs w→I w)
  (hrun:∀w:World,Scene F W cs w→(execOp a.eval o).run P w=.ok (.value (v w.heap.size)) (w.alloc ob)) (hC:∀(w:World) b,w.heap[b]? =some ob→(CC b).on w [b])
  (h:∀b,wpStage P ops I Out Q rest (fun w'=>Scene F W (CC b::cs) w') (a.put o.dst (v b))):wpStage P ops I Out Q (o::rest) (fun w'=>Scene F W cs w') a:=
 stage_alloc v ob (fun b w'=>Scene F W (CC b::cs) w') hv hw he hrun (fun w hS=>hS.add (f:=[w.heap.size]) ((Mod.refl [] w).alloc ob) (hC _ _ (at_alloc w ob)) (by simp)) (fun _ w h=>hI _ w h) h
end
theorem scene_joinNew {F:List Nat} {W W1 w:World} {cs ds:List Comp} (h0:Scene F W cs W1) (h1:Scene [] W1 ds w):Scene F W (ds++cs) w:=by
 obtain⟨hm,fp,hh,hf⟩:=h1;exact Scene.split (h0.add (c:=Comp.all ds) (f:=fp) hm hh fun x hx=>(hf x hx).elim (fun h=>by simp at h) id)
theorem wp_got5 {P:Program} {c:Code} {Q:Exit→Act→World→Prop} {a:Act} {w:World} (R:Nat→Nat→Nat→Nat→Nat→World→Prop) (FR:Nat→Nat→Nat→Nat→Nat→Act)
  (h:c.wp P (fun e a' w'=>e=.normal∧∃p q r s t,a'=FR p q r s t∧R p q r s t w') a w) (hk:∀p q r s t w',R p q r s t w'→Q .normal (FR p q r s t) w'):c.wp P Q a w:=
 wp_mono h (by rintro e a' w' ⟨rfl,p,q,r,s,t,rfl,h⟩;exact hk p q r s t w' h)
end Go.Proofs.YtgfdeiijblakfaaGreat
