/- Joined contracts. No conditions. -/
import Derived.Test.YtdehaommhbjakaaGreatC38
set_option maxHeartbeats 8000000
set_option maxRecDepth 20000
namespace Go.Proofs.YtdehaommhbjakaaGreat
open RowKit Stg
theorem uH {c:HC} (hc:c.Ok) {k:Nat} {s:HS} (hI:az c k s) {p o acc i:Int} (h:dt s p o acc i=0):aV s p o acc=0∧Ty.du (bG s o)∧Ty.eH (bG s o).1 (bG s o).2 i=0∧(eF (bG s o) i).2.2≠6:=by
 unfold dt at h;split at h
 ·rename_i h';exact absurd h h'
 ·rename_i h1;have hE:aV s p o acc=0:=Classical.byContradiction h1;split at h
  ·rename_i h';exact absurd h h'
  ·rename_i h2;split at h
   ·cases h
   ·rename_i h3;obtain⟨j,hj,hjn,hlv,hent,_⟩:=lC hI (gi hE);have htr:=(hI.cG _ (ic hjn hlv)).2.1;rw[←hent]at htr;exact⟨hE,az.mF hc hI htr,Classical.byContradiction h2,h3⟩
theorem uB {c:HC} (hc:c.Ok) {k:Nat} {s:HS} (hI:az c k s) (p o acc i:Int):0≤dt s p o acc i∧dt s p o acc i≤29:=by
 have h1:=kC hI p o acc;unfold dt;split
 ·exact h1
 ·rename_i h2;obtain⟨j,hj,hjn,hlv,hent,_⟩:=lC hI (gi (Classical.byContradiction h2));have htr:=(hI.cG _ (ic hjn hlv)).2.1;rw[←hent]at htr;have he:Ty.bS (bG s o).1 (bG s o).2=0:=az.mF hc hI htr;have hp:Ty.eH (bG s o).1 (bG s o).2 i=0∨Ty.eH (bG s o).1 (bG s o).2 i=6:=by
   unfold Ty.eH;rw[if_pos he];split
   ·exact .inl rfl
   ·exact .inr rfl
  split
  ·omega
  ·split<;>omega
theorem mE {c:HC} {k:Nat} {s:HS} (hI:az c k s) {o:Int} (h:Tb.bF s.T o=0):∃(j xo xl:Nat),Tb.aJ o=j∧j<c.n∧(Tb.aC s.T.g.S j).2=true∧a8 s o=Tb.aD s.T.E j∧(a8 s o).off=xo∧(a8 s o).len=xl∧dY s o=bH s j∧(bH s j).length≤xl∧((bH s j).length:Int)=fQ s o∧((xo:Int),(xl:Int))∈bA c s∧(((xo:Int),(xl:Int)),bH s j)∈ct c s:=by
 obtain⟨j,hj,hjn,hlv,hent,hho⟩:=lC hI h;obtain⟨xo,xl,ho,hl,hl0,hml⟩:=sN hI hjn hlv;have hm:=Fz hjn hlv;have hu:=List.mem_map_of_mem (f:=(·.1)) hm;rw[ft]at hu;unfold dD at hm hu;rw[ho,hl]at hm hu;refine⟨j,xo,xl,hj,hjn,hlv,hent,by rw[hent];exact ho,by rw[hent];exact hl,by unfold dY;rw[hj,Int.toNat_natCast],hml,?_,hu,hm⟩;unfold fQ;rw[hent];exact hI.mem j hjn hlv
theorem Hd {F:List Nat} {W w:World} {cs:List ai} {a:HA} {c:HC} {k:Nat} {s:HS} (hc:c.Ok) (hI:az c k s) (hk:k≤1000) {p o i v:Int} (o0:0≤o) (o1:o≤18446744073709551615) (v0:0≤v) (v1:v≤18446744073709551615) {e0:ai} {bo bp bh bi bv:Nat}
  (hS:af F W (aB a c s::e0::aj bv (.cells #[.int .u64 v] 31 (0,0))::aj bi (.cells #[.int .i64 i] 3 (0,0))::aj bo (.cells #[.int .u64 o] 59 (0,0))::aj bp (.cells #[.int .i64 p] 3 (0,0))::aj bh (.cells #[.pointer (some ⟨a.hb,0,none⟩)] 26 (0,0))::cs) w):
  Calls Tryz.prog 116 #[.pointer (some ⟨bh,0,none⟩),.pointer (some ⟨bp,0,none⟩),.pointer (some ⟨bo,0,none⟩),.pointer (some ⟨bi,0,none⟩),.pointer (some ⟨bv,0,none⟩)] w fun e w'=>e=.returned (.int .i64 (iN s p o i v).1)∧af F W (aB a c (iN s p o i v).2::e0::aj bv (.cells #[.int .u64 v] 31 (0,0))::aj bi (.cells #[.int .i64 i] 3 (0,0))::aj bo (.cells #[.int .u64 o] 59 (0,0))::aj bp (.cells #[.int .i64 p] 3 (0,0))::aj bh (.cells #[.pointer (some ⟨a.hb,0,none⟩)] 26 (0,0))::cs) w':=by
 obtain⟨B,hB,hS0⟩:=eE hS;have hfi:=zh (oB hc hI hk hS0 p o 2 i o0 o1);have c1:=ae (hS0.block 10 rfl);have c2:=ae (hS0.block 11 rfl);have c3:=ae (hS0.block 12 rfl);have c4:=ae (hS0.block 13 rfl);have hS1:=zh hS0;have hBH:=zh hB;by_cases hE:dt s p o 2 i=0
 ·obtain⟨hacc,hty,hpe,hk6⟩:=uH hc hI hE;obtain⟨off,n,hpo,hpn,hwo,hpfit⟩:=yd hty hpe hk6;obtain⟨j,xo,xl,hj,hjn,hlv,hent,hxo,hxl,hby,hmx,hms,hus,hob⟩:=mE hI (gi hacc);have hms':((bH s j).length:Int)=Ty.cC (bG s o).1 (bG s o).2:=hms;have hst:=zh fun w' f' (h':(b6 a.ar c.size (bA c s) B).on w' f')=>Cq h' hus off n (by omega) hwo v v0 v1
  have hEH:=zh hE;have hsd:iN s p o i v=if jW v n=false then(9,s)else(0,dw s o off (aX v n)):=by
   unfold iN;rw[if_neg (by simp[hE]),hpo,hpn];unfold zB jW;simp only[Int.toNat_natCast];have e:decide ((8:Int)≤n)=decide (8≤n):=by simp;omega
   rw[e]
  have hput:=s4 hI (gi hacc) hj (off:=off) (by omega) (b:=aX v n) (by rw[aZ];omega) (kD v n);have hsdH:=zh hsd;have hputH:=zh hput;have hIH:=zh hI;have hxoH:=zh hxo;have hxlH:=zh hxl;have hentH:=zh hent;have hmsH:=zh (And.intro hmx (show off+n≤(bH s j).length by omega));have hpoH:=zh (And.intro hpo hpn);clear hS hS0 hB hE hacc hty hpe hk6 hpo hpn hpfit hj hlv hent hxo hxl hby hmx hms hms' hus hob hsd hput;go_enter Tryz.func116,Tryz.ntmps116;go_wp2_with fail;refine hfi.out.mono ?_;rintro e w1 ⟨xh,xw,xt,xf,xn,p1,p2,p3,rfl,hm1,hz⟩;obtain⟨hz1,hz2⟩:=hz hEH.out;have hxf:xf=xo:=by rw[←hxoH.out,hz1]
  have hxn:xn=xl:=by rw[←hxlH.out,hz1]
  have hp1:p1=off:=by rw[←hpoH.out.1,hz2]
  have hp2:p2=n:=by rw[←hpoH.out.2,hz2]
  subst hxf hxn hp1 hp2;rw[hEH.out];have hS2:=(((hS1.out.then hm1).alloc (.cells #[.int .u64 xh,.int .i64 xw,.int .i64 xt,.int .i64 xo,.int .i64 xl] 106)).behind.alloc (.cells #[.int .i64 off,.int .i64 n,.int .i64 p3] 211)).behind;rw[size_alloc]at hS2;have hS2:=zh hS2;have hz1H:=zh hz1;clear hm1 hS1 hz hz1 hz2 hfi c1 c2 c3 c4 hxoH hxlH hpoH;go_wp2_with fail;generalize w1.heap.size=bx at*;generalize(w1.alloc (.cells #[.int .u64 xh,.int .i64 xw,.int .i64 xt,.int .i64 xo,.int .i64 xl] 106)).alloc (.cells #[.int .i64 off,.int .i64 n,.int .i64 p3] 211)=W1 at*;obtain⟨fa,hl,hput,hne⟩:=hS2.out.dJ 1 rfl;have k1:=GW.cells (S:=fa) (hS2.out.block 0 rfl) (hne 0 _ _ rfl);have k2:=GW.cells (S:=fa) (hS2.out.block 8 rfl) (hne 7 _ _ rfl);have k3:=GW.cells (S:=fa) (hS2.out.block 9 rfl) (hne 8 _ _ rfl);have k4:=GW.cells (S:=fa) (hS2.out.block 11 rfl) (hne 10 _ _ rfl);have k5:=GW.cells (S:=fa) (hS2.out.block 15 rfl) (hne 14 _ _ rfl);have hlH:=zh fun w' hm=>hst.out w' fa (hl w' hm)
  have hpuH:=zh hput;clear hl hput hne hS2 hst;refine bV fa (by kernel_rfl) (by kernel_rfl) ?_;refine sq 11 ?_;refine cE 117 #[.pointer (some ⟨a.ar,0,none⟩),.agg #[.int .i64 xo,.int .i64 xl],.int .i64 off,.int .i64 n,.int .u64 v] (.int .i64 (j8 n v)) rfl Tryz.call117 rfl rfl hlH.out ?_;refine sq 1 ?_;refine au fun w2 aP=> ?_
  have hS3:=zh (((hpuH.out w2 _ aP).erase 8).erase 8);clear k1 k2 k3 k4 k5 hlH hpuH aP;go_wp2_with fail;go_ret;rw[hsdH.out];have hS4:=hS3.out
  cases hf:jW v n with
  |false=>
   rw[show kN B (xo+off) n v=B by unfold kN;rw[hf];rfl]at hS4;rw[show j8 n v=9 by unfold j8;rw[hf];rfl];exact⟨rfl,cz hBH.out hS4⟩
  |true=>
   rw[show kN B (xo+off) n v=ca B (xo+off) (aX v n) by unfold kN;rw[hf];rfl]at hS4;rw[show j8 n v=0 by unfold j8;rw[hf];rfl];obtain⟨g1,⟨A,C,g2,g3⟩,g4,g5⟩:=hputH.out;refine⟨rfl,jg (s':=dw s o off (aX v n)) g5.symm (fun q=>by rw[g4]) ?_ hS4⟩;have hu:=hIH.out.eA;rw[←ft,g2]at hu;have hA:=hBH.out;rw[g2]at hA;rw[g3];have hxe:dD (Tb.aD s.T.E j)=((xo:Int),(xl:Int)):=by unfold dD;rw[←hentH.out];rw[hz1H.out]
   have:=hA.write hu (p:=off) (b:=aX v n) (by rw[aZ];exact hmsH.out.2) (by rw[hxe];simp only;have:=hmsH.out.1;omega) (kD v n);rw[hxe]at this⊢;simpa using this
 ·have hfd:iN s p o i v=(dt s p o 2 i,s):=by unfold iN;rw[if_pos hE]
  rw[hfd];generalize hEg:dt s p o 2 i=E at*;have hne:(E != 0)=true:=by simpa using hE
  have hEgH:=zh hEg;clear hS hS0 hB hfd hE hEg;go_enter Tryz.func116,Tryz.ntmps116;go_wp2_with fail;refine hfi.out.mono ?_;rintro e w1 ⟨xh,xw,xt,xf,xn,p1,p2,p3,rfl,hm1,_⟩;rw[hEgH.out];have hS2:=zh (hS1.out.then (((Mod.refl [] w1).alloc (.cells #[.int .u64 xh,.int .i64 xw,.int .i64 xt,.int .i64 xf,.int .i64 xn] 106)).alloc (.cells #[.int .i64 p1,.int .i64 p2,.int .i64 p3] 211) |> hm1.ag));clear hm1 hS1 hfi c1 c2 c3 c4;go_wp2_with fail;go_ret;exact⟨rfl,cz hBH.out hS2.out⟩
theorem Bx {c:HC} (hc:c.Ok) {k:Nat} {s:HS} (hI:az c k s) (p o i v:Int):(0≤(iN s p o i v).1∧(iN s p o i v).1≤29)∧(iN s p o i v).2.evs=s.evs∧(iN s p o i v).2.miss=s.miss:=by
 unfold iN;split
 ·exact⟨uB hc hI _ _ _ _,rfl,rfl⟩
 ·split
  ·exact⟨by simp only;omega,rfl,rfl⟩
  ·exact⟨by simp only;omega,rfl,rfl⟩
theorem GX {F:List Nat} {W w:World} {cs:List ai} {a:HA} {c:HC} {k:Nat} {s:HS} (hc:c.Ok) (hI:az c k s) (hk:k≤900) {p o i v:Int} (o0:0≤o) (o1:o≤18446744073709551615) (v0:0≤v) (v1:v≤18446744073709551615) (hS:af F W (aB a c s::cs) w):
  Calls Tryz.prog 58 #[.pointer (some ⟨a.hb,0,none⟩),.int .i64 p,.int .u64 o,.int .i64 i,.int .u64 v] w fun e w'=>e=.returned (.int .i64 (mH c s p o i v).1)∧af F W (aB a c (mH c s p o i v).2::cs) w':=by
 have hS1:=((((((((hS.alloc (.cells #[.pointer (some ⟨a.hb,0,none⟩)] 26)).swap.alloc (.cells #[.int .i64 p] 3)).swap.alloc (.cells #[.int .u64 o] 59)).swap.alloc (.cells #[.int .i64 i] 3)).swap.alloc (.cells #[.int .u64 v] 31)).swap.alloc (.cells #[.int .i64 p,.int .i64 4,.int .u64 o,.int .u64 (u64 i),.int .i64 0] 100)).swap));simp only[size_alloc]at hS1;obtain⟨hr,he,hms⟩:=Bx hc hI p o i v;have hu:0≤u64 i∧u64 i≤18446744073709551615:=by unfold u64;omega
 have hact:=zh (lD (rs:=iN s p o i v) (h1:=o) (g:=116) hI (by omega) hS1 (by omega) (by omega) hu Tryz.call116 hr ⟨o0,o1⟩ he hms fun _ w' h'=>Hd hc hI (by omega) o0 o1 v0 v1 h');unfold mH;generalize act c s p 4 o (u64 i) (iN s p o i v)=res at*;clear hS hS1 hr he hms;go_enter Tryz.func58,Tryz.ntmps58;go_wp2_with fail;refine hact.out.mono ?_;rintro e w1 ⟨rfl,eh2,er2,hS2,_⟩;have hS2:=zh hS2;clear hact;go_wp2_with fail;go_ret;exact⟨rfl,(((((hS2.out.erase 1).erase 1).erase 1).erase 1).erase 1).erase 1⟩
end Go.Proofs.YtdehaommhbjakaaGreat
namespace Go.Proofs.YtdehaommhbjakaaGreat
open RowKit Stg
def my (v:Value) (bs:List Int):ai:=
 ⟨fun w f=>cI w v bs∧f=v.ownBlock.toList,fun {w w' f T} h hm hT=>⟨by
  rcases h.1 with h1|⟨sb,so,cap,rfl,h2,h3,h4⟩
  ·exact .inl h1
  ·refine .inr ⟨sb,so,cap,rfl,hm.lt h2,h3,fun i hi=>⟨(h4 i hi).1,(Ty.bg hm h2 (hT sb (by rw[h.2];simp[Value.ownBlock]))).trans (h4 i hi).2⟩⟩,h.2⟩,fun {w f} h x hx=>by
  rw[h.2,Option.mem_toList]at hx;rcases h.1 with⟨rfl,_⟩|⟨sb,so,cap,rfl,h2,_⟩
  ·cases hx
  ·have hx':some sb=some x:=hx;obtain rfl:=Option.some.inj hx';exact h2⟩
theorem ri {F:List Nat} {W w:World} {cs:List ai} (i:Nat) {v:Value} {bs:List Int} (h:af F W cs w) (hi:cs[i]? =some (my v bs)):cI w v bs:=
 let ⟨_,h1,_⟩:=h.part i hi;h1.1
theorem vY {c:HC} {k:Nat} {s:HS} {o:Int} {j xo xl off:Nat} {B b:List Int} (hI:az c k s) (hB:cd c.size (ct c s) B) (hr:Tb.bF s.T o=0) (hj:Tb.aJ o=j) (hx:dD (Tb.aD s.T.E j)=((xo:Int),(xl:Int))) (hm:(bH s j).length≤xl) (hf:off+b.length≤(bH s j).length) (hb:∀x∈b,0≤x∧x≤255):
  bA c s=bA c (dw s o off b)∧(∀q,aF c s q=aF c (dw s o off b) q)∧cd c.size (ct c (dw s o off b)) (ca B (xo+off) b):=by
 obtain⟨g1,⟨A,C,g2,g3⟩,g4,g5⟩:=s4 hI hr hj (off:=off) (by omega) (b:=b) (by omega) hb;refine⟨g5.symm,fun q=>by rw[g4],?_⟩;have hu:=hI.eA;rw[←ft,g2]at hu;rw[g2]at hB;rw[g3];have:=hB.write hu (p:=off) (b:=b) hf (by rw[hx];simp only;omega) hb;rw[hx]at this⊢;simpa using this
theorem FT {F:List Nat} {W w:World} {cs:List ai} {a:HA} {c:HC} {k:Nat} {s:HS} (hc:c.Ok) (hI:az c k s) (hk:k≤1000) {p o off:Int} {v:Value} {b:List Int} (o0:0≤o) (o1:o≤18446744073709551615) {e0:ai} {bo bp bh bf bb:Nat}
  (hS:af F W (aB a c s::e0::aj bb (.cells #[v] 56 (0,0))::aj bf (.cells #[.int .i64 off] 3 (0,0))::aj bo (.cells #[.int .u64 o] 59 (0,0))::aj bp (.cells #[.int .i64 p] 3 (0,0))::aj bh (.cells #[.pointer (some ⟨a.hb,0,none⟩)] 26 (0,0))::my v b::cs) w):
  Calls Tryz.prog 162 #[.pointer (some ⟨bh,0,none⟩),.pointer (some ⟨bp,0,none⟩),.pointer (some ⟨bo,0,none⟩),.pointer (some ⟨bf,0,none⟩),.pointer (some ⟨bb,0,none⟩)] w fun e w'=>e=.returned (.int .i64 (dX s p o off b).1)∧af F W (aB a c (dX s p o off b).2::e0::aj bb (.cells #[v] 56 (0,0))::aj bf (.cells #[.int .i64 off] 3 (0,0))::aj bo (.cells #[.int .u64 o] 59 (0,0))::aj bp (.cells #[.int .i64 p] 3 (0,0))::aj bh (.cells #[.pointer (some ⟨a.hb,0,none⟩)] 26 (0,0))::my v b::cs) w':=by
 obtain⟨B,hB,hS0⟩:=eE hS;have hrs:=zh (lr hc hI hk hS0 p o 2 o0 o1);have c1:=ae (hS0.block 11 rfl);have c2:=ae (hS0.block 12 rfl);have c3:=ae (hS0.block 13 rfl);have hS1:=zh hS0;have hBH:=zh hB;have hv0:=ri 14 hS0 rfl;have hln:=fun ty w=>hv0.len ty w
 by_cases hE:aV s p o 2=0
 ·have hr0:=gi hE;obtain⟨j,xo,xl,hj,hjn,hlv,hent,hxo,hxl,hby,hmx,hms,hus,hob⟩:=mE hI hr0;have htr:=(hI.cG _ (ic hjn hlv)).2.1;rw[←hent]at htr;have hty:Ty.du (bG s o):=az.mF hc hI htr;have hwi:=zh fun w' (hm:Mod [] w w')=>pL ((hS0.then hm).block 0 rfl) ((hS0.then hm).part 2 rfl).choose_spec.1 (a8 s o) hty off b.length (by omega)
  have hwe:cY off b.length (Ty.cC (Ty.aN s.R (a8 s o).tag).1 (Ty.aN s.R (a8 s o).tag).2)=cY off b.length (fQ s o):=rfl;rw[hwe]at hwi;rw[hE,kI hE]at hrs;have hEH:=zh hE
  cases hw:cY off b.length (fQ s o)with
  |false=>
   have hfd:dX s p o off b=(7,s):=by unfold dX;rw[if_neg (by simp[hE]),if_pos hw]
   have hfdH:=zh hfd;rw[hw]at hwi;generalize a8 s o=X at*;obtain⟨xh,xw,xt,xf,xn⟩:=X;simp only[Tb.b8]at hrs hwi;clear hS hS0 hB hE hfd hv0 hw hwe hj hjn hlv hent hxo hxl hby hmx hms hus hob htr hty hr0 hEH;go_enter Tryz.func162,Tryz.ntmps162;go_wp2_with fail;refine hrs.out.mono ?_;rintro e w1 ⟨rfl,hm1⟩;have hm1H:=zh (hm1.alloc (.cells #[.int .u64 xh,.int .i64 xw,.int .i64 xt,.int .i64 xf,.int .i64 xn] 106));have d1:=ae ((hS1.out.then hm1H.out).block 9 rfl);have d2:=ae ((hS1.out.then hm1H.out).block 10 rfl);have d3:=ae ((hS1.out.then hm1H.out).block 13 rfl);clear hm1 hrs c1 c2 c3;go_wp2_with fail;refine(hwi.out _ hm1H.out).mono ?_;rintro e w2 ⟨rfl,hm2⟩;have hS2:=zh (hS1.out.then (hm1H.out.ag hm2));clear hm2 hwi hS1 d1 d2 d3 hm1H;go_wp2_with fail;go_ret;rw[hfdH.out];exact⟨rfl,cz hBH.out hS2.out⟩
  |true=>
   have hfd:dX s p o off b=(0,dw s o off b):=by unfold dX;rw[if_neg (by simp[hE]),if_neg (by simp[hw])]
   rw[hw]at hwi;have hwr:=hw;unfold cY at hwr;simp only[Bool.and_eq_true,decide_eq_true_eq]at hwr;obtain⟨n,rfl⟩:=Int.eq_ofNat_of_zero_le hwr.1;have hxe:dD (Tb.aD s.T.E j)=((xo:Int),(xl:Int)):=by unfold dD;rw[←hent,hxo,hxl]
   have hpw:=zh (vY hI hB hr0 hj hxe hmx (off:=n) (b:=b) (by omega) hv0.byte);have hwt:=zh fun w' f' (h':(b6 a.ar c.size (bA c s) B).on w' f') (hv:cI w' v b)=>AZ h' hus n hv (by omega)
   have hfdH:=zh hfd;obtain⟨X,hX⟩:∃X,a8 s o=X:=⟨_,rfl⟩;rw[hX]at hrs hwi hxo hxl;obtain⟨xh,xw,xt,xf,xn⟩:=X;simp only at hxo hxl;subst hxo hxl;simp only[Tb.b8]at hrs hwi;clear hS hS0 hB hE hfd hv0 hw hwe hj hjn hlv hent hby hmx hms hus hob htr hty hr0 hEH hX hxe hwr;go_enter Tryz.func162,Tryz.ntmps162;go_wp2_with fail;refine hrs.out.mono ?_;rintro e w1 ⟨rfl,hm1⟩;have hm1H:=zh (hm1.alloc (.cells #[.int .u64 xh,.int .i64 xw,.int .i64 xt,.int .i64 xo,.int .i64 xl] 106));have hS2:=zh ((hS1.out.then hm1).alloc (.cells #[.int .u64 xh,.int .i64 xw,.int .i64 xt,.int .i64 xo,.int .i64 xl] 106)).behind;have d1:=ae (hS2.out.block 10 rfl);have d2:=ae (hS2.out.block 11 rfl);have d3:=ae (hS2.out.block 14 rfl);clear hm1 hrs c1 c2 c3 hS1;go_wp2_with fail;refine(hwi.out _ hm1H.out).mono ?_;rintro e w2 ⟨rfl,hm2⟩;have hS3:=zh (hS2.out.then hm2);clear hm2 hwi hS2 d1 d2 d3 hm1H;go_wp2_with fail;generalize w1.heap.size=bx at*;obtain⟨fa,hl,hput,hne⟩:=hS3.out.dJ 1 rfl;have k1:=GW.cells (S:=fa) (hS3.out.block 0 rfl) (hne 0 _ _ rfl);have k2:=GW.cells (S:=fa) (hS3.out.block 8 rfl) (hne 7 _ _ rfl);have k3:=GW.cells (S:=fa) (hS3.out.block 10 rfl) (hne 9 _ _ rfl);have k4:=GW.cells (S:=fa) (hS3.out.block 11 rfl) (hne 10 _ _ rfl);have k5:=GW.cells (S:=fa) (hS3.out.block 14 rfl) (hne 13 _ _ rfl);have hlH:=zh fun w' hm=>hwt.out w' fa (hl w' hm) (ri 15 (hS3.out.then hm) rfl)
   have hpuH:=zh hput;clear hl hput hne hS3 hwt;refine bV fa (by kernel_rfl) (by kernel_rfl) ?_;refine sq 8 ?_;refine cE 163 #[.pointer (some ⟨a.ar,0,none⟩),.agg #[.int .i64 xo,.int .i64 xl],.int .i64 n,v] (.int .i64 0) rfl Tryz.call163 rfl rfl hlH.out ?_;refine sq 1 ?_;refine au fun w4 hw4=> ?_
   have hS4:=zh ((hpuH.out w4 _ hw4).erase 8);clear k1 k2 k3 k4 k5 hlH hpuH hw4;go_wp2_with fail;go_ret;rw[hfdH.out];obtain⟨g1,g2,g3⟩:=hpw.out;exact⟨rfl,jg (s':=dw s o n b) g1 g2 g3 hS4.out⟩
 ·have hfd:dX s p o off b=(aV s p o 2,s):=by unfold dX;rw[if_pos hE]
  rw[hfd];rw[j3 hE]at hrs;generalize aV s p o 2=E at*;have hne:(E != 0)=true:=by simpa using hE
  clear hS hS0 hB hfd hE hv0;go_enter Tryz.func162,Tryz.ntmps162;go_wp2_with fail;refine hrs.out.mono ?_;rintro e w1 ⟨rfl,hm1⟩;have hS2:=zh ((hS1.out.then hm1).then ((Mod.refl [] w1).alloc (.cells #[.int .u64 0,.int .i64 0,.int .i64 0,.int .i64 0,.int .i64 0] 106)));clear hm1 hrs hS1 c1 c2 c3;go_wp2_with fail;go_ret;exact⟨rfl,cz hBH.out hS2.out⟩
theorem Aa {c:HC} {k:Nat} {s:HS} (hI:az c k s) (p o off:Int) (b:List Int):(0≤(dX s p o off b).1∧(dX s p o off b).1≤29)∧(dX s p o off b).2.evs=s.evs∧(dX s p o off b).2.miss=s.miss:=by
 unfold dX;split
 ·exact⟨kC hI _ _ _,rfl,rfl⟩
 ·split
  ·exact⟨by simp only;omega,rfl,rfl⟩
  ·exact⟨by simp only;omega,rfl,rfl⟩
theorem EW {F:List Nat} {W w:World} {cs:List ai} {a:HA} {c:HC} {k:Nat} {s:HS} (hc:c.Ok) (hI:az c k s) (hk:k≤900) {p o off:Int} {v:Value} {b:List Int} (o0:0≤o) (o1:o≤18446744073709551615) (hS:af F W (aB a c s::my v b::cs) w):
  Calls Tryz.prog 118 #[.pointer (some ⟨a.hb,0,none⟩),.int .i64 p,.int .u64 o,.int .i64 off,v] w fun e w'=>e=.returned (.int .i64 (fZ c s p o off b).1)∧af F W (aB a c (fZ c s p o off b).2::my v b::cs) w':=by
 have hv0:=ri 1 hS rfl;obtain⟨va,vl,vc,rfl⟩:∃a l c,v=.slice a l c:=by
  rcases hv0 with⟨rfl,_⟩|⟨_,_,_,rfl,_⟩<;>exact⟨_,_,_,rfl⟩
 have hS1:=((((((((hS.alloc (.cells #[.pointer (some ⟨a.hb,0,none⟩)] 26)).swap.alloc (.cells #[.int .i64 p] 3)).swap.alloc (.cells #[.int .u64 o] 59)).swap.alloc (.cells #[.int .i64 off] 3)).swap.alloc (.cells #[.slice va vl vc] 56)).swap.alloc (.cells #[.int .i64 p,.int .i64 6,.int .u64 o,.int .u64 (u64 off),.int .i64 0] 100)).swap));simp only[size_alloc]at hS1;obtain⟨hr,he,hms⟩:=Aa hI p o off b;have hu:0≤u64 off∧u64 off≤18446744073709551615:=by unfold u64;omega
 have hact:=zh (lD (rs:=dX s p o off b) (h1:=o) (g:=162) hI (by omega) hS1 (by omega) (by omega) hu Tryz.call162 hr ⟨o0,o1⟩ he hms fun _ w' h'=>FT hc hI (by omega) o0 o1 h');unfold fZ;generalize act c s p 6 o (u64 off) (dX s p o off b)=res at*;clear hS hS1 hr he hms hv0;go_enter Tryz.func118,Tryz.ntmps118;go_wp2_with fail;refine hact.out.mono ?_;rintro e w1 ⟨rfl,eh2,er2,hS2,_⟩;have hS2:=zh hS2;clear hact;go_wp2_with fail;go_ret;exact⟨rfl,(((((hS2.out.erase 1).erase 1).erase 1).erase 1).erase 1).erase 1⟩
end Go.Proofs.YtdehaommhbjakaaGreat
namespace Go.Proofs.YtdehaommhbjakaaGreat
open RowKit Stg
section
variable {P:Program} {ops:Array Oper} {I:World→Prop} {Out:Prop} {Q:Act→World→Prop}
theorem pJ (u:Value) (C':World→Prop) {o:Oper} {rest:List Oper} {C:World→Prop} {a:Act} {ts:Array TypeId} {d x:Operand} {dv sv:Value} (hop:o.op=.call {callee:=.builtin .copy,args:=#[d,x],argTypes:=ts})
  (hw:Region.wanted o (yielded ops a.tmps)=true) (hd:a.eval d=dv) (hx:a.eval x=sv)
  (hrun:∀w,C w→∃w',(Builtin.copy_ ts o.type #[dv,sv]).run P w=.ok u w'∧C' w') (hI:∀w,C' w→I w)
  (h:aH P ops I Out Q rest C' (a.put o.dst u)):aH P ops I Out Q (o::rest) C a:=by
 refine cP (fun v=>v=u) (fun _ w=>C' w) hw (by simp[aY,hop]) ⟨_,rfl⟩ (fun w hc=> ?_) (fun _=>hI) (fun v hv=>by subst hv;exact h);obtain⟨w',hr,hc'⟩:=hrun w hc;exact⟨_,w',by simp[execOp,hop,resolve,invoke,builtin,hd,hx,hr,Result.andThen],rfl,hc'⟩
end
theorem Di {ar:Nat} {size:Int} {used:List Ext} {B:List Int} {w:World} {f:List Nat} (h:(b6 ar size used B).on w f) {o l o2 l2:Nat} (hx:((o:Int),(l:Int))∈used) (hx2:((o2:Int),(l2:Int))∈used) (to' fr n:Nat) (hn:to'+n≤l) (hn2:fr+n≤l2):
  Calls Tryz.prog 120 #[.pointer (some ⟨ar,0,none⟩),.agg #[.int .i64 o,.int .i64 l],.int .i64 to',.agg #[.int .i64 o2,.int .i64 l2],.int .i64 fr,.int .i64 n] w (bD (b6 ar size used (ca B (o+to') ((B.drop (o2+fr)).take n))) (.int .i64 0) w f):=by
 obtain⟨hk,⟨hl0,hol,hB⟩,hhas,ab,g,cap,⟨hc1,hc2⟩,hH⟩:=b6.view h hx;obtain⟨_,⟨hl20,hol2,_⟩,hhas2,_⟩:=b6.view h hx2;have hS0:=zh (((af.start hH).alloc (.cells #[.int .i64 o,.int .i64 l] 104)).alloc (.cells #[.int .i64 o2,.int .i64 l2] 104));have hsl:=zh fun w' (h':af f w (aj (w.alloc (.cells #[.int .i64 o,.int .i64 l] 104 (0,0))).heap.size (.cells #[.int .i64 o2,.int .i64 l2] 104 (0,0))::aj w.heap.size (.cells #[.int .i64 o,.int .i64 l] 104 (0,0))::fe ar ab (.slice (some ⟨g,0,none⟩) B.length cap) (bK size used) used B) w')=>
  And.intro (mR (h'.block 2 rfl) (h'.part 3 rfl).choose_spec.1 o l hhas hl0 hol hc1 hB hc2) (mR (h'.block 2 rfl) (h'.part 3 rfl).choose_spec.1 o2 l2 hhas2 hl20 hol2 hc1 hB hc2)
 have hwi:=zh fun w=>nT (some ⟨g,o,none⟩) l (cap-o) (by omega) to' n (by omega) w
 have hwi2:=zh fun w=>nT (some ⟨g,o2,none⟩) l2 (cap-o2) (by omega) fr n (by omega) w
 have hwt:jk to' n l=true:=by unfold jk;simp;omega
 have hwt2:jk fr n l2=true:=by unfold jk;simp;omega
 rw[hwt]at hwi;rw[hwt2]at hwi2;have hkH:=zh hk;have hlen:((B.drop (o2+fr)).take n).length=n:=by simp;omega
 have hlenH:=zh hlen;have hby:∀x∈(B.drop (o2+fr)).take n,0≤x∧x≤255:=fun x hx=>hk.byte x (List.mem_of_mem_drop (List.mem_of_mem_take hx))
 have hbyH:=zh hby;generalize hbs:(B.drop (o2+fr)).take n=bs at*;have hbsH:=zh hbs;have h0:decide ((n:Int)<0)=false:=by simp
 clear h hH hhas hhas2 hk hwt hwt2 hx hx2 hlen hbs hby;go_enter Tryz.func120,Tryz.ntmps120;go_wp2_with fail;refine(hsl.out _ hS0.out).1.mono ?_;rintro e w1 ⟨rfl,hm1⟩;have hS1:=zh (hS0.out.then hm1);have hcx:=ae (hS1.out.block 0 rfl);rw[show(w.alloc (.cells #[.int .i64 o,.int .i64 l] 104)).heap.size=w.heap.size+1 by simp]at hcx;clear hm1 hS0;go_wp2_with fail;clear hcx;refine(hsl.out _ hS1.out).2.mono ?_;rintro e w2 ⟨rfl,hm2⟩;have hS2:=zh (hS1.out.then hm2);clear hm2 hS1 hsl;go_wp2_with fail;refine(hwi.out _).mono ?_;rintro e w3 ⟨rfl,hm3⟩;have hS3:=zh (hS2.out.then hm3);clear hm3 hS2 hwi;go_wp2_with fail;refine(hwi2.out _).mono ?_;rintro e w4 ⟨rfl,hm4⟩;have hS4:=zh (hS3.out.then hm4);clear hm4 hS3 hwi2;go_wp2_with fail;by_cases hz:cap-o=to'
 ·by_cases hz2:cap-o2=fr
  ·have hbp:∀(q:Nat),(0<n→q=o2+fr)→∀c w',Mod [] w4 w'→cI w' (.slice (some ⟨g,q,none⟩) (fr+n-fr) c) bs:=fun q hq c w' hm=>by
    rw[←hbsH.out,show fr+n-fr=n by omega];exact mP (aG (hS4.out.row 4 rfl) hm (by simp)) hkH.out.byte (p:=o2+fr) (m:=n) (by omega) (by omega) hq c
   have hcp:=fun c c2 ty w' hm=>oA (aG (hS4.out.row 4 rfl) hm (by simp)) (hbp o2 (by omega) c2 w' hm) (p:=o+to') (m:=to'+n-to') (by rw[hlenH.out];omega) (by rw[hlenH.out];omega) o c (by rw[hlenH.out];omega) ty
   have hcpH:=zh hcp;clear hbp hcp;refine bY (fun w'=>∃x:GW [g] w4,w'=x.1) (fun w'=>Mod [] w4 w') (by kernel_rfl) (by kernel_rfl) (fun _ h=>ah.of (h.mono (by simp))) (Mod.refl _ _).drew ?_;refine sq 12 ?_;refine pJ (.int .i64 bs.length) (fun w'=>∃w0,Mod [] w4 w0∧w'=w0.setCells g (o+to') (aR bs)) rfl rfl rfl rfl (fun w' hm=>⟨_,hcpH.out _ _ _ w' hm,w',hm,rfl⟩) (fun w' ⟨w0,hm,e⟩=> ?_) ?_
   ·subst e;exact ah.of (Mod.setCells (.inl (by simp)) _ _ _ (hm.mono (by simp)))
   simp only[Act.put,sA,sB,sC];refine au fun w5 hw5=> ?_
   obtain⟨w0,hm5,rfl⟩:=hw5;have hS5:=zh (((dU 4 (hS4.out.then hm5) rfl (o:=o+to') (b:=bs) (by rw[hlenH.out];omega)).erase 0).erase 0);clear hcpH hm5;go_wp2_with fail;go_ret;obtain⟨f6,p1,p2,p3⟩:=hS5.out.done;have hov:=cN (l:=B) (b:=bs) (off:=o+to') (by rw[hlenH.out];omega);refine⟨f6,rfl,⟨⟨hkH.out.s1,hkH.out.u,hkH.out.ul,by rw[hov];exact hkH.out.len,iD hkH.out.byte hbyH.out⟩,ab,.slice (some ⟨g,0,none⟩) B.length cap,?_⟩,p2,p3⟩;unfold fe;rw[hov];exact p1
  ·have hbp:∀(q:Nat),(0<n→q=o2+fr)→∀c w',Mod [] w4 w'→cI w' (.slice (some ⟨g,q,none⟩) (fr+n-fr) c) bs:=fun q hq c w' hm=>by
    rw[←hbsH.out,show fr+n-fr=n by omega];exact mP (aG (hS4.out.row 4 rfl) hm (by simp)) hkH.out.byte (p:=o2+fr) (m:=n) (by omega) (by omega) hq c
   have hcp:=fun c c2 ty w' hm=>oA (aG (hS4.out.row 4 rfl) hm (by simp)) (hbp (o2+fr) (by omega) c2 w' hm) (p:=o+to') (m:=to'+n-to') (by rw[hlenH.out];omega) (by rw[hlenH.out];omega) o c (by rw[hlenH.out];omega) ty
   have hcpH:=zh hcp;clear hbp hcp;refine bY (fun w'=>∃x:GW [g] w4,w'=x.1) (fun w'=>Mod [] w4 w') (by kernel_rfl) (by kernel_rfl) (fun _ h=>ah.of (h.mono (by simp))) (Mod.refl _ _).drew ?_;refine sq 12 ?_;refine pJ (.int .i64 bs.length) (fun w'=>∃w0,Mod [] w4 w0∧w'=w0.setCells g (o+to') (aR bs)) rfl rfl rfl rfl (fun w' hm=>⟨_,hcpH.out _ _ _ w' hm,w',hm,rfl⟩) (fun w' ⟨w0,hm,e⟩=> ?_) ?_
   ·subst e;exact ah.of (Mod.setCells (.inl (by simp)) _ _ _ (hm.mono (by simp)))
   simp only[Act.put,sA,sB,sC];refine au fun w5 hw5=> ?_
   obtain⟨w0,hm5,rfl⟩:=hw5;have hS5:=zh (((dU 4 (hS4.out.then hm5) rfl (o:=o+to') (b:=bs) (by rw[hlenH.out];omega)).erase 0).erase 0);clear hcpH hm5;go_wp2_with fail;go_ret;obtain⟨f6,p1,p2,p3⟩:=hS5.out.done;have hov:=cN (l:=B) (b:=bs) (off:=o+to') (by rw[hlenH.out];omega);refine⟨f6,rfl,⟨⟨hkH.out.s1,hkH.out.u,hkH.out.ul,by rw[hov];exact hkH.out.len,iD hkH.out.byte hbyH.out⟩,ab,.slice (some ⟨g,0,none⟩) B.length cap,?_⟩,p2,p3⟩;unfold fe;rw[hov];exact p1
 ·by_cases hz2:cap-o2=fr
  ·have hbp:∀(q:Nat),(0<n→q=o2+fr)→∀c w',Mod [] w4 w'→cI w' (.slice (some ⟨g,q,none⟩) (fr+n-fr) c) bs:=fun q hq c w' hm=>by
    rw[←hbsH.out,show fr+n-fr=n by omega];exact mP (aG (hS4.out.row 4 rfl) hm (by simp)) hkH.out.byte (p:=o2+fr) (m:=n) (by omega) (by omega) hq c
   have hcp:=fun c c2 ty w' hm=>oA (aG (hS4.out.row 4 rfl) hm (by simp)) (hbp o2 (by omega) c2 w' hm) (p:=o+to') (m:=to'+n-to') (by rw[hlenH.out];omega) (by rw[hlenH.out];omega) (o+to') c (by rw[hlenH.out];omega) ty
   have hcpH:=zh hcp;clear hbp hcp;refine bY (fun w'=>∃x:GW [g] w4,w'=x.1) (fun w'=>Mod [] w4 w') (by kernel_rfl) (by kernel_rfl) (fun _ h=>ah.of (h.mono (by simp))) (Mod.refl _ _).drew ?_;refine sq 12 ?_;refine pJ (.int .i64 bs.length) (fun w'=>∃w0,Mod [] w4 w0∧w'=w0.setCells g (o+to') (aR bs)) rfl rfl rfl rfl (fun w' hm=>⟨_,hcpH.out _ _ _ w' hm,w',hm,rfl⟩) (fun w' ⟨w0,hm,e⟩=> ?_) ?_
   ·subst e;exact ah.of (Mod.setCells (.inl (by simp)) _ _ _ (hm.mono (by simp)))
   simp only[Act.put,sA,sB,sC];refine au fun w5 hw5=> ?_
   obtain⟨w0,hm5,rfl⟩:=hw5;have hS5:=zh (((dU 4 (hS4.out.then hm5) rfl (o:=o+to') (b:=bs) (by rw[hlenH.out];omega)).erase 0).erase 0);clear hcpH hm5;go_wp2_with fail;go_ret;obtain⟨f6,p1,p2,p3⟩:=hS5.out.done;have hov:=cN (l:=B) (b:=bs) (off:=o+to') (by rw[hlenH.out];omega);refine⟨f6,rfl,⟨⟨hkH.out.s1,hkH.out.u,hkH.out.ul,by rw[hov];exact hkH.out.len,iD hkH.out.byte hbyH.out⟩,ab,.slice (some ⟨g,0,none⟩) B.length cap,?_⟩,p2,p3⟩;unfold fe;rw[hov];exact p1
  ·have hbp:∀(q:Nat),(0<n→q=o2+fr)→∀c w',Mod [] w4 w'→cI w' (.slice (some ⟨g,q,none⟩) (fr+n-fr) c) bs:=fun q hq c w' hm=>by
    rw[←hbsH.out,show fr+n-fr=n by omega];exact mP (aG (hS4.out.row 4 rfl) hm (by simp)) hkH.out.byte (p:=o2+fr) (m:=n) (by omega) (by omega) hq c
   have hcp:=fun c c2 ty w' hm=>oA (aG (hS4.out.row 4 rfl) hm (by simp)) (hbp (o2+fr) (by omega) c2 w' hm) (p:=o+to') (m:=to'+n-to') (by rw[hlenH.out];omega) (by rw[hlenH.out];omega) (o+to') c (by rw[hlenH.out];omega) ty
   have hcpH:=zh hcp;clear hbp hcp;refine bY (fun w'=>∃x:GW [g] w4,w'=x.1) (fun w'=>Mod [] w4 w') (by kernel_rfl) (by kernel_rfl) (fun _ h=>ah.of (h.mono (by simp))) (Mod.refl _ _).drew ?_;refine sq 12 ?_;refine pJ (.int .i64 bs.length) (fun w'=>∃w0,Mod [] w4 w0∧w'=w0.setCells g (o+to') (aR bs)) rfl rfl rfl rfl (fun w' hm=>⟨_,hcpH.out _ _ _ w' hm,w',hm,rfl⟩) (fun w' ⟨w0,hm,e⟩=> ?_) ?_
   ·subst e;exact ah.of (Mod.setCells (.inl (by simp)) _ _ _ (hm.mono (by simp)))
   simp only[Act.put,sA,sB,sC];refine au fun w5 hw5=> ?_
   obtain⟨w0,hm5,rfl⟩:=hw5;have hS5:=zh (((dU 4 (hS4.out.then hm5) rfl (o:=o+to') (b:=bs) (by rw[hlenH.out];omega)).erase 0).erase 0);clear hcpH hm5;go_wp2_with fail;go_ret;obtain⟨f6,p1,p2,p3⟩:=hS5.out.done;have hov:=cN (l:=B) (b:=bs) (off:=o+to') (by rw[hlenH.out];omega);refine⟨f6,rfl,⟨⟨hkH.out.s1,hkH.out.u,hkH.out.ul,by rw[hov];exact hkH.out.len,iD hkH.out.byte hbyH.out⟩,ab,.slice (some ⟨g,0,none⟩) B.length cap,?_⟩,p2,p3⟩;unfold fe;rw[hov];exact p1
end Go.Proofs.YtdehaommhbjakaaGreat
