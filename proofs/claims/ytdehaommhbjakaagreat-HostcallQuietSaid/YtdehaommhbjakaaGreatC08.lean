/- Joined contracts. No conditions. -/
import Derived.Test.YtdehaommhbjakaaGreatC07
set_option maxHeartbeats 1000000
namespace Go.Proofs.YtdehaommhbjakaaGreat.Tb
open RowKit Stg
theorem kH {x:TS} {h:Int} (h0:bF x h=0):∃j:Nat,aJ h=j∧j<x.g.S.length∧(aC x.g.S j).2=true∧(aC x.g.S j).1=kr h∧(aD x.E j).tag=lf h:=by
 have hs:0≤aJ h:=by unfold aJ;omega
 obtain⟨j,hj⟩:=Int.eq_ofNat_of_zero_le hs;unfold bF at h0;rw[hj]at h0;simp only[Int.toNat_natCast,l9]at h0;refine⟨j,hj,?_⟩;by_cases c1:(x.g.S.length:Int)≤j
 ·rw[if_pos c1]at h0;cases h0
 ·rw[if_neg c1]at h0;by_cases c2:(aC x.g.S j).2=false∨(aC x.g.S j).1≠kr h
  ·rw[if_pos c2]at h0;cases h0
  ·rw[if_neg c2]at h0;by_cases c3:(aD x.E j).tag≠lf h
   ·rw[if_pos c3]at h0;cases h0
   ·refine⟨by omega,?_,?_,?_⟩
    ·cases hl:(aC x.g.S j).2 with
     |true=>rfl
     |false=>exact absurd (.inl hl) c2
    ·exact Classical.not_not.1 fun e=>c2 (.inr e)
    ·exact Classical.not_not.1 c3
def gP (x:TS) (h:Int):TS:=if bF x h=0 then⟨jd x.g (aJ h),x.E⟩else x
theorem wx {x:GS} {k m:Nat} (hk:(aC x.S k).2=true) (hl:(aC (jd x (k:Int)).S m).2=true):m≠k∧aC (jd x (k:Int)).S m=aC x.S m:=by
 have hkl:k<x.S.length:=by
  rcases Nat.lt_or_ge k x.S.length with h|h
  ·exact h
  ·rw[sG h]at hk;cases hk
 unfold jd at hl⊢;rw[l9,hk,if_pos rfl,Int.toNat_natCast]at hl⊢;have key:∀g:Int,(aC (x.S.set k (g,false)) m).2=true→m≠k∧aC (x.S.set k (g,false)) m=aC x.S m:=fun g h=>by
  rw[ib hkl]at h⊢;by_cases e:m=k
  ·rw[if_pos e]at h;cases h
  ·exact⟨e,if_neg e⟩
 by_cases c:(aC x.S k).1=4294967295
 ·rw[if_pos c]at hl⊢;exact key _ hl
 ·rw[if_neg c]at hl⊢;exact key _ hl
section
variable {n:Nat} {first:Int} {x:TS}
theorem eX.drop (hI:eX n first x) (h:Int):eX n first (gP x h):=by
 unfold gP;by_cases h0:bF x h=0
 ·rw[if_pos h0];obtain⟨j,hj,hjl,hlv,_,_⟩:=kH h0;rw[hj];refine⟨hI.g.Hf j,hI.len,fun m hm hl=> ?_⟩;simp only at hl⊢;obtain⟨hne,e⟩:=wx hlv hl;rw[e]at hl⊢;exact hI.ok m hm hl
 ·rw[if_neg h0];exact hI
theorem iK.drop {E E':List bP} (hA:iK x E) {h:Int} (h0:bF x h=0) (hl':E'.length=E.length) (hs:∀m:Nat,(m:Int)≠aJ h→aD E' m=aD E m):iK (gP x h) E':=by
 unfold gP;rw[if_pos h0];obtain⟨j,hj,hjl,hlv,_,_⟩:=kH h0;rw[hj]at hs⊢;refine⟨by rw[hl'];exact hA.1,fun m hl=> ?_⟩;simp only at hl⊢;obtain⟨hne,e⟩:=wx hlv hl;rw[e]at hl;rw[hs m (by omega)];exact hA.2 m hl
end
section
variable {w:World} {n:Nat} {first:Int} {x:TS} (hI:eX n first x) (hn:n≤4096) (h:Int) (h0:0≤h) (h1:h≤18446744073709551615) {f:List Nat} {tb b:Nat} {ev:Value}
include hI hn h0 h1
theorem Ee {pb:Nat} {sl:Value} (hc:(gy tb ev b pb sl first x).on w f):
  Calls Tryz.prog 159 #[.pointer (some ⟨tb,0,none⟩),.int .u64 h] w (bD (gy tb ev b pb sl first (gP x h)) (.int .i64 (bF x h)) w f):=by
 obtain⟨E,hA,hH⟩:=hc;have hS:=af.start hH;have hR:=zh (pM hI hA h h0 h1 hn hS);have hSH:=zh hS;have hAH:=zh hA;unfold jz at hR;obtain⟨eh,eo,et,ef,el,hen⟩:∃eh eo et ef el,mJ x h=⟨eh,eo,et,ef,el⟩:=⟨_,_,_,_,_,rfl⟩;rw[hen]at hR;unfold b8 at hR;simp only at hR;clear hA hH hS hen;by_cases hz:bF x h=0
 ·obtain⟨j,hj,hjl,hlv,_,_⟩:=kH hz;have hjE:j<E.length:=by have:=hAH.out.1;have:=hI.len;have:=hI.g.len;omega
  obtain⟨gr,cap,rfl,_,_⟩:=cW (hSH.out.row 1 rfl) (by omega);have hA2:=zh (hAH.out.drop (E':=E.set j fB) hz (by simp) (fun m hm=>by rw[jM hjE,if_neg (by omega)]));have hSl:=zh fun w'=>nj h h0 h1 w'
  rw[hj]at hSl;have hEn:=zh fun cs w' (i:Nat) (h:af f w cs w') hi=>Gz (b:=b) (pb:=pb) (sl:=sl) hI.g i h hi hn (j:Int)
  have ev0:pc x.g (j:Int)=0:=by unfold pc;rw[l9,hlv];rfl
  rw[ev0]at hEn;have eD:gP x h=⟨jd x.g (j:Int),x.E⟩:=by unfold gP;rw[if_pos hz,hj]
  rw[eD]at hA2;rw[eD,hz];rw[hz]at hR;clear eD ev0 hI hz hlv hAH;go_enter Tryz.func159,Tryz.ntmps159;go_wp2_with fail;refine hR.out.mono ?_;rintro e w1 ⟨rfl,hm1⟩;have hS1:=zh (hSH.out.then hm1);have hmB:=(Mod.refl [] w1).alloc (.cells #[.int .u64 eh,.int .i64 eo,.int .i64 et,.int .i64 ef,.int .i64 el] 106 (0,0));have hS2:=zh (hS1.out.then hmB);clear hSH hR hmB hm1 hS1;go_wp2_with fail;refine(hSl.out _).mono ?_;rintro e w3 ⟨rfl,hm3⟩;have hS3:=zh (hS2.out.then hm3);clear hS2 hSl hm3;have hrow:=hS3.out.row 1 rfl;have r0:=eO eB hrow hjE rfl (k:=0) (by omega);have r1:=eO eB hrow hjE rfl (k:=1) (by omega);have r2:=eO eB hrow hjE rfl (k:=2) (by omega);have r3:=eO eB hrow hjE rfl (k:=3) (by omega);have r4:=eO eB hrow hjE rfl (k:=4) (by omega);simp only[cG,List.getElem?_cons_zero,List.getElem?_cons_succ,Nat.add_zero]at r0 r1 r2 r3 r4;have hfr:=fun k=>hrow.frozenAt k
  have hcb:=ae (hS3.out.block 0 rfl);have hS4:af f w _ (((((w3.setCell ⟨gr,j*5,none⟩ (.int .u64 0)).setCell ⟨gr,j*5+1,none⟩ (.int .i64 0)).setCell ⟨gr,j*5+2,none⟩ (.int .i64 0)).setCell ⟨gr,j*5+3,none⟩ (.int .i64 0)).setCell ⟨gr,j*5+4,none⟩ (.int .i64 0)):=
   hS3.out.y7 eB (by omega) 1 rfl hjE fB
  have hcb4:=ae (hS4.block 0 rfl);have hS4:=zh hS4;clear hrow hS3;go_wp2_with fail;refine(hEn.out _ _ 2 hS4.out rfl).mono ?_;rintro e w5 ⟨rfl,hS5⟩;have hS5:=zh hS5;clear hEn hS4 hcb hcb4 hfr r0 r1 r2 r3 r4;go_wp2_with fail;go_ret;obtain⟨f',q1,q2,q3⟩:=hS5.out.done;refine⟨f',rfl,⟨_,hA2.out,?_⟩,q2,q3⟩;unfold lV;rw[List.length_set];exact q1
 ·have eD:gP x h=x:=by unfold gP;rw[if_neg hz]
  rw[eD];generalize bF x h=r at*;clear eD hI;go_enter Tryz.func159,Tryz.ntmps159;go_wp2_with fail;refine hR.out.mono ?_;rintro e w1 ⟨rfl,hm1⟩;have hS1:=zh (hSH.out.then hm1);have hmB:=(Mod.refl [] w1).alloc (.cells #[.int .u64 eh,.int .i64 eo,.int .i64 et,.int .i64 ef,.int .i64 el] 106 (0,0));have hS2:=zh (hS1.out.then hmB);clear hSH hR hmB hm1 hS1;have hz2:(r==0)=false:=by simp only[beq_eq_false_iff_ne];omega
  go_wp2_with fail;go_ret;obtain⟨f',q1,q2,q3⟩:=hS2.out.done;exact⟨f',rfl,⟨E,hAH.out,q1⟩,q2,q3⟩
end
end Go.Proofs.YtdehaommhbjakaaGreat.Tb
namespace Go.Proofs.YtdehaommhbjakaaGreat.Tb
open RowKit Stg
def jC (owner:Int):Prop:=owner<1∨64<owner
instance (owner:Int):Decidable (jC owner):=by unfold jC;infer_instance
def kV (x:TS) (h owner:Int):Int:=if bF x h=0 then(if jC owner then 1 else 0)else bF x h
def dR (x:TS) (h owner:Int):TS:=if bF x h=0∧¬jC owner then⟨x.g,x.E.set (aJ h).toNat {aD x.E (aJ h).toNat with owner:=owner}⟩else x
section
variable {n:Nat} {first:Int} {x:TS} (hI:eX n first x)
include hI
theorem eX.tY (h owner:Int):eX n first (dR x h owner):=by
 unfold dR;by_cases h0:bF x h=0∧¬jC owner
 ·rw[if_pos h0];obtain⟨j,hj,hjl,hlv,_,_⟩:=kH h0.1;rw[hj,Int.toNat_natCast];have hjE:j<x.E.length:=by have:=hI.len;have:=hI.g.len;omega
  refine⟨hI.g,by rw[List.length_set];exact hI.len,fun m hm hl=> ?_⟩;simp only at hl⊢;rw[jM hjE];have:=hI.ok m hm hl;by_cases e:m=j
  ·subst e;rw[if_pos rfl];exact this
  ·rw[if_neg e];exact this
 ·rw[if_neg h0];exact hI
theorem iK.tY {E:List bP} (hA:iK x E) {h owner:Int} (h0:bF x h=0) (hb:¬jC owner) {j:Nat} (hj:aJ h=j):iK (dR x h owner) (E.set j {aD E j with owner:=owner}):=by
 unfold dR;rw[if_pos ⟨h0,hb⟩,hj,Int.toNat_natCast];obtain⟨j',hj',hjl,hlv,_,_⟩:=kH h0;obtain rfl:j=j':=by omega
 have hjE:j<x.E.length:=by have:=hI.len;have:=hI.g.len;omega
 refine⟨by simp[hA.1],fun m hl=> ?_⟩;simp only at hl⊢;rw[jM hjE,jM (by rw[hA.1];exact hjE),hA.2 j hlv];by_cases e:m=j
 ·rw[if_pos e,if_pos e]
 ·rw[if_neg e,if_neg e];exact hA.2 m hl
end
section
variable {w:World} {n:Nat} {first:Int} {x:TS} (hI:eX n first x) (hn:n≤4096) (h:Int) (h0:0≤h) (h1:h≤18446744073709551615) (owner:Int) {f:List Nat} {tb b:Nat} {ev:Value}
include hI hn h0 h1
theorem ET {pb:Nat} {sl:Value} (hc:(gy tb ev b pb sl first x).on w f):
  Calls Tryz.prog 123 #[.pointer (some ⟨tb,0,none⟩),.int .u64 h,.int .i64 owner] w (bD (gy tb ev b pb sl first (dR x h owner)) (.int .i64 (kV x h owner)) w f):=by
 obtain⟨E,hA,hH⟩:=hc;have hS:=af.start hH;have hR:=zh (pM hI hA h h0 h1 hn hS);have hSH:=zh hS;have hAH:=zh hA;unfold jz at hR;obtain⟨eh,eo,et,ef,el,hen⟩:∃eh eo et ef el,mJ x h=⟨eh,eo,et,ef,el⟩:=⟨_,_,_,_,_,rfl⟩;rw[hen]at hR;unfold b8 at hR;simp only at hR;clear hA hH hS hen;by_cases hz:bF x h=0
 ·by_cases hb:jC owner
  ·have eD:dR x h owner=x:=by unfold dR;rw[if_neg (fun e=>e.2 hb)]
   have eV:kV x h owner=1:=by unfold kV;rw[if_pos hz,if_pos hb]
   rw[eD,eV];rw[hz]at hR;clear eD eV hI hz;go_enter Tryz.func123,Tryz.ntmps123;go_wp2_with fail;refine hR.out.mono ?_;rintro e w1 ⟨rfl,hm1⟩;have hS1:=zh (hSH.out.then hm1);have hmB:=(Mod.refl [] w1).alloc (.cells #[.int .u64 eh,.int .i64 eo,.int .i64 et,.int .i64 ef,.int .i64 el] 106 (0,0));have hS2:=zh (hS1.out.then hmB);clear hSH hR hmB hm1 hS1;unfold jC at hb;have ed:decide (1≤owner∧owner≤64)=false:=by simp only[decide_eq_false_iff_not];omega
   go_wp2_with fail;refine(oV owner _).mono ?_;rintro e w3 ⟨rfl,hm3⟩;have hS3:=zh ((hS2).out.then hm3);rw[ed];clear hS2;go_wp2_with fail;go_ret;obtain⟨f',q1,q2,q3⟩:=hS3.out.done;exact⟨f',rfl,⟨E,hAH.out,q1⟩,q2,q3⟩
  ·obtain⟨j,hj,hjl,hlv,hx1,hx2⟩:=kH hz;clear hx1 hx2;have hjE:j<E.length:=by have:=hAH.out.1;have:=hI.len;have:=hI.g.len;omega
   obtain⟨gr,cap,rfl,_,_⟩:=cW (hSH.out.row 1 rfl) (by omega);have hA2:=zh (hAH.out.tY hI hz hb hj);have eV:kV x h owner=0:=by unfold kV;rw[if_pos hz,if_neg hb]
   have hSl:=zh fun w'=>nj h h0 h1 w'
   rw[hj]at hSl;have eD:dR x h owner=⟨x.g,x.E.set j {aD x.E j with owner:=owner}⟩:=by unfold dR;rw[if_pos ⟨hz,hb⟩,hj,Int.toNat_natCast]
   rw[eD]at hA2;rw[eD,eV];rw[hz]at hR;clear eD eV hI hz hlv hAH;go_enter Tryz.func123,Tryz.ntmps123;go_wp2_with fail;refine hR.out.mono ?_;rintro e w1 ⟨rfl,hm1⟩;have hS1:=zh (hSH.out.then hm1);have hmB:=(Mod.refl [] w1).alloc (.cells #[.int .u64 eh,.int .i64 eo,.int .i64 et,.int .i64 ef,.int .i64 el] 106 (0,0));have hS2:=zh (hS1.out.then hmB);clear hSH hR hmB hm1 hS1;have hb':1≤owner∧owner≤64:=by unfold jC at hb;omega
   clear hb;have ed:decide (1≤owner∧owner≤64)=true:=by simp[hb']
   go_wp2_with fail;refine(oV owner _).mono ?_;rintro e w3 ⟨rfl,hm3⟩;have hS3:=zh (hS2.out.then hm3);rw[ed];clear hS2 ed;go_wp2_with fail;have k1:=GW.cells (S:=[]) (hS3.out.block 0 rfl) (by simp);refine aS (by kernel_rfl) (by kernel_rfl) ?_;refine sq 5 ?_;refine b7 85 _ (.int .i64 j) rfl Tryz.call85 rfl rfl (fun w' _=>hSl.out w') ?_;refine sq 3 ?_;refine dq (p:=⟨gr,j*5+1,none⟩) (u:=.int .i64 owner) (fun w'=>w'.setCell ⟨gr,j*5+1,none⟩ (.int .i64 owner)) rfl rfl (by kernel_rfl) rfl rfl rfl (fun w' hw=> ?_) (fun w' hw=> ?_)
   ·have hrow:=(hS3.out.then hw).row 1 rfl;have r1:=eO eB hrow hjE rfl (k:=1) (by omega);have hfr:=hrow.frozenAt (j*5+1);simp only[cG,List.getElem?_cons_zero,List.getElem?_cons_succ]at r1;clear k1;go_simp
   ·have h5:=(hS3.out.then hw).GJ eB 1 rfl hjE (k:=1) (by omega) {aD E j with owner:=owner} (.int .i64 owner) (by rw[yK hjE];rfl);clear k1;generalize w'.setCell ⟨gr,j*5+1,none⟩ (.int .i64 owner)=w5 at*;have h5:=zh h5;go_wp2_with fail;go_ret;obtain⟨f',q1,q2,q3⟩:=h5.out.done;refine⟨f',rfl,⟨_,hA2.out,?_⟩,q2,q3⟩;unfold lV;rw[List.length_set];exact q1
 ·have eD:dR x h owner=x:=by unfold dR;rw[if_neg (fun e=>hz e.1)]
  have eV:kV x h owner=bF x h:=by unfold kV;rw[if_neg hz]
  rw[eD,eV];generalize bF x h=r at*;clear eD eV hI;go_enter Tryz.func123,Tryz.ntmps123;go_wp2_with fail;refine hR.out.mono ?_;rintro e w1 ⟨rfl,hm1⟩;have hS1:=zh (hSH.out.then hm1);have hmB:=(Mod.refl [] w1).alloc (.cells #[.int .u64 eh,.int .i64 eo,.int .i64 et,.int .i64 ef,.int .i64 el] 106 (0,0));have hS2:=zh (hS1.out.then hmB);clear hSH hR hmB hm1 hS1;have hz2:(r==0)=false:=by simp only[beq_eq_false_iff_ne];omega
  go_wp2_with fail;go_ret;obtain⟨f',q1,q2,q3⟩:=hS2.out.done;exact⟨f',rfl,⟨E,hAH.out,q1⟩,q2,q3⟩
end
end Go.Proofs.YtdehaommhbjakaaGreat.Tb
namespace Go.Proofs.YtdehaommhbjakaaGreat.Tb
open RowKit Stg
theorem Cj:(Tryz.prog.info? 106).map (fun i=>(i.zero,i.size,i.bytes))=some (some (b8 fB),5,40):=by kernel_rfl
theorem uA (n:Nat) (hn:n≤4096) (w:World):
  ∃w',(Instr.makeSlice 168 (.int .i64 n) (.int .i64 n)).run Tryz.prog w=.ok (.slice (some ⟨w.heap.size,0,none⟩) n n) w'∧w'.ownsRow w.heap.size 106 5 (.slice (some ⟨w.heap.size,0,none⟩) n n) n (flat cG (List.replicate n fB))∧Mod [] w w':=by
 obtain⟨i0,hi,hz0,hz1,hz2⟩:=info_parts Cj;obtain⟨w',h1,h2,h3⟩:=run_makeSlice_full (P:=Tryz.prog) w w.heap.size 168 106 i0 (b8 fB) 5 Tryz.underlying168 hi hz0 hz1 .i64 .i64 n (by omega) (by rw[hz2];omega) (by unfold maxLen;omega) (Nat.le_refl _);rw[vR eB (by omega) fB (b8 fB).cells rfl]at h2;exact⟨w',h1,h2,(Mod.refl [] w).grown h3 (by simp)⟩
def start (n:Nat):TS:=⟨⟨fresh n,cV n,0⟩,List.replicate n fB⟩
theorem eX.start (n:Nat) (first:Int):eX n first (start n):=by
 refine⟨jw.start n first,by simp[Go.Proofs.YtdehaommhbjakaaGreat.Tb.start],fun j hj hl=> ?_⟩;have:aC (fresh n) j=(0,false):=by rw[j1 (by rw[iC];exact hj)];simp[fresh]
 simp only[Go.Proofs.YtdehaommhbjakaaGreat.Tb.start]at hl;rw[this]at hl;cases hl
section
variable (n:Nat) (first:Int) (hn:n≤4096) (hf1:1≤first) (hf2:first≤4294967295)
include hn hf1 hf2
theorem Fv {F:List Nat} {W w:World} {cs:List ai} (hS:af F W cs w):Calls Tryz.prog 34 #[.int .i64 n,.int .i64 first] w fun e w'=>∃tb ev b pb sl,e=.returned (.tuple #[.pointer (some ⟨tb,0,none⟩),.int .i64 0])∧af F W (gy tb ev b pb sl first (start n)::cs) w':=by
 have hM:=zh (uA n hn);have hN:=zh (oU n first hn hf1 hf2 w);go_enter Tryz.func34,Tryz.ntmps34;go_wp2_with fail;refine hN.out.mono ?_;rintro e w1 ⟨b,pb,sl,psv,rfl,hm1,hG1,hfo1⟩;obtain⟨w2,hr2,hrow2,hm2⟩:=hM.out w1;have hS1:af [] w [lT b pb sl first ⟨fresh n,cV n,0⟩] w1:=(af.empty w).add hm1 ⟨psv,hG1,rfl⟩ hfo1;have hS2:af [] w [aT (.slice (some ⟨w1.heap.size,0,none⟩) n n) n 106 5 (flat cG (List.replicate n fB)),lT b pb sl first ⟨fresh n,cV n,0⟩] w2:=
  hS1.add (c:=aT (.slice (some ⟨w1.heap.size,0,none⟩) n n) n 106 5 (flat cG (List.replicate n fB))) hm2 ⟨aE hrow2 (Nat.zero_le _),rfl⟩ (fun x hx=>by simp[Value.ownBlock]at hx;omega)
 have hS3:=zh (hS2.alloc (.cells #[.pointer (some ⟨b,0,none⟩),.slice (some ⟨w1.heap.size,0,none⟩) n n] 170 (0,0)));clear hm1 hG1 hfo1 hS1 hS2 hrow2 hm2 hN hM;go_wp2_with fail;go_ret2;obtain⟨f',q1,q2,q3⟩:=hS3.out.done;have hA:iK (start n) (List.replicate n fB):=⟨rfl,fun _ _=>rfl⟩;have hon:(gy w2.heap.size (.slice (some ⟨w1.heap.size,0,none⟩) n n) b pb sl first (start n)).on _ f':=⟨List.replicate n fB,hA,by unfold lV;rw[List.length_replicate];exact q1⟩;exact⟨w2.heap.size,.slice (some ⟨w1.heap.size,0,none⟩) n n,b,pb,sl,rfl,hS.add q2 hon (fun x hx=>(q3 x hx).resolve_left (by simp))⟩
theorem EF {F:List Nat} {W w:World} {cs:List ai} (hS:af F W cs w):Calls Tryz.prog 92 #[.int .i64 n,.int .i64 first] w fun e w'=>∃tb ev b gv lv,e=.returned (.tuple #[.pointer (some ⟨tb,0,none⟩),.int .i64 0])∧af F W (qJ tb ev b gv lv first (start n)::cs) w':=by
 have hM:=zh (uA n hn);have hN:=zh (FN n first hn hf1 hf2 w);go_enter Tryz.func92,Tryz.ntmps92;go_wp2_with fail;refine hN.out.mono ?_;rintro e w1 ⟨b,gv,lv,fv,rfl,hm1,hG1,hfo1⟩;obtain⟨w2,hr2,hrow2,hm2⟩:=hM.out w1;have hS1:af [] w [qH b gv lv first ⟨fresh n,cV n,0⟩] w1:=(af.empty w).add hm1 ⟨fv,hG1,rfl⟩ hfo1;have hS2:af [] w [aT (.slice (some ⟨w1.heap.size,0,none⟩) n n) n 106 5 (flat cG (List.replicate n fB)),qH b gv lv first ⟨fresh n,cV n,0⟩] w2:=
  hS1.add (c:=aT (.slice (some ⟨w1.heap.size,0,none⟩) n n) n 106 5 (flat cG (List.replicate n fB))) hm2 ⟨aE hrow2 (Nat.zero_le _),rfl⟩ (fun x hx=>by simp[Value.ownBlock]at hx;omega)
 have hS3:=zh (hS2.alloc (.cells #[.pointer (some ⟨b,0,none⟩),.slice (some ⟨w1.heap.size,0,none⟩) n n] 249 (0,0)));clear hm1 hG1 hfo1 hS1 hS2 hrow2 hm2 hN hM;go_wp2_with fail;go_ret2;obtain⟨f',q1,q2,q3⟩:=hS3.out.done;have hA:iK (start n) (List.replicate n fB):=⟨rfl,fun _ _=>rfl⟩;have hon:(qJ w2.heap.size (.slice (some ⟨w1.heap.size,0,none⟩) n n) b gv lv first (start n)).on _ f':=⟨List.replicate n fB,hA,by unfold zt;rw[List.length_replicate];exact q1⟩;exact⟨w2.heap.size,.slice (some ⟨w1.heap.size,0,none⟩) n n,b,gv,lv,rfl,hS.add q2 hon (fun x hx=>(q3 x hx).resolve_left (by simp))⟩
end
end Go.Proofs.YtdehaommhbjakaaGreat.Tb
namespace Go.Proofs.YtdehaommhbjakaaGreat.Tb
open RowKit Stg
theorem xJ {x:TS} {h e:Int} (he:bF x h=e) (h0:e≠0):jz x h=.tuple #[.agg #[.int .u64 0,.int .i64 0,.int .i64 0,.int .i64 0,.int .i64 0],.int .i64 e]:=by
 unfold jz mJ;rw[he,if_neg h0];rfl
end Go.Proofs.YtdehaommhbjakaaGreat.Tb
namespace Go.Proofs.YtdehaommhbjakaaGreat.Tb
open RowKit Stg
theorem zd (w:World) (l:List Value) (T:TypeId) (cs:Array Value) (hc:cs.toList=l):∀j u,l[j]? =some u→(w.alloc (.cells cs T)).cell? ((⟨w.heap.size,0,none⟩:Addr).add j)=some u:=by
 intro j u hu;rw[eT,Nat.zero_add,ae (an w (.cells cs T))];rw[←hc,Array.getElem?_toList]at hu;exact hu
def qI (x:TS) (k:Nat):List bP:=(List.range k).filterMap fun i=>if(aC x.g.S i).2 then some (aD x.E i)else none
section
variable {F:List Nat} {W w:World} {cs:List ai} {n:Nat} {first:Int} {x:TS} (i:Nat) (h:af F W cs w) {tb b pb:Nat} {ev sl:Value} (hi:cs[i]? =some (gy tb ev b pb sl first x))
include h hi
theorem Fa:Calls Tryz.prog 153 #[.pointer (some ⟨tb,0,none⟩)] w fun e w'=>∃v,e=.returned v∧Mod [] w w'∧ik w' v x.g.F:=by
 obtain⟨f,⟨E,hA,hH⟩,_⟩:=h.part i hi;have hS:=af.start hH;obtain⟨psv,hG⟩:=y9 2 hS rfl;have hT:=zh (qa (hS.block 0 rfl));have hGH:=zh hG;clear hA hH hS hG h hi;go_enter Tryz.func153,Tryz.ntmps153;go_wp2_with fail;refine hT.out.mono ?_;rintro e w1 ⟨rfl,hm1⟩;go_wp2_with fail;refine(Fm (hGH.out.mod hm1 (by simp))).mono ?_;rintro e w2 ⟨v,rfl,hm2,hi2⟩;obtain⟨va,vl,vc,rfl⟩:∃a l c,v=.slice a l c:=by
  rcases hi2 with⟨rfl,_⟩|⟨_,_,_,rfl,_⟩<;>exact⟨_,_,_,rfl⟩
 go_wp2_with fail;go_ret;exact⟨_,rfl,hm1.ag hm2,hi2⟩
theorem xp:Calls Tryz.prog 104 #[.pointer (some ⟨tb,0,none⟩)] w fun e w'=>e=.returned (.bool (decide (x.g.F.length=0)))∧Mod [] w w':=by
 have hP:=zh (Fa i h hi);clear h hi;obtain⟨q,hq⟩:∃q,decide (x.g.F.length=0)=q:=⟨_,rfl⟩;rw[hq];have hqH:=zh hq;clear hq;go_enter Tryz.func104,Tryz.ntmps104;go_wp2_with fail;refine hP.out.mono ?_;rintro e w1 ⟨v,rfl,hm1,hi1⟩;have hln:=fun ty w=>hi1.len ty w
 clear hi1;by_cases hz:x.g.F.length=0
 ·have hq:=hqH.out;rw[hz]at hln hq;simp only[decide_true]at hq;subst hq;go_wp2_with fail;go_ret;exact⟨rfl,hm1⟩
 ·have hz2:((x.g.F.length:Int)==0)=false:=by simp only[beq_eq_false_iff_ne];omega
  have hq:=hqH.out;simp only[hz,decide_false]at hq;subst hq;clear hz;go_wp2_with fail;go_ret;exact⟨rfl,hm1⟩
end
end Go.Proofs.YtdehaommhbjakaaGreat.Tb
namespace Go.Proofs.YtdehaommhbjakaaGreat.Ty
open RowKit Stg
abbrev aM:=Int×Int
def wid (f:aM):Int:=if f.1=1 then 1 else if f.1=2 then 2 else if f.1=3 then 4 else if f.1=6 then f.2 else 8
def cu (f:aM):Int:=if f.1=6 then 1 else wid f
def bM (f:aM):Int:=if f.1<1∨6<f.1 then 8 else if(f.1=6∧f.2<1)∨(f.1≠6∧f.2≠0)then 3 else if 65536<f.2 then 4 else 0
def dj (n k:Int):Int:=(n+k-1)/k*k
theorem jh {f:aM} (h:bM f=0):1≤f.1∧f.1≤6∧1≤wid f∧wid f≤65536∧(cu f=1∨cu f=2∨cu f=4∨cu f=8):=by
 unfold bM at h;split at h
 ·simp at h
 ·rename_i h1;split at h
  ·simp at h
  ·rename_i h2;split at h
   ·simp at h
   ·rename_i h3;unfold cu wid
    repeat' split
    all_goals omega
theorem jI {n k:Int} (hk:1≤k):n≤dj n k∧dj n k<n+k∧dj n k%k=0:=by
 unfold dj;have h1:=Int.mul_ediv_add_emod (n+k-1) k;have h2:=Int.emod_nonneg (n+k-1) (show k≠0 by omega);have h3:=Int.emod_lt_of_pos (n+k-1) (show 0<k by omega);rw[Int.mul_comm]at h1;refine⟨by omega,by omega,Int.mul_emod_left _ _⟩
def fv (f:aM):Value:=.agg #[.int .i64 f.1,.int .i64 f.2]
theorem nf (k c:Int) (w:World):Calls Tryz.prog 131 #[.agg #[.int .i64 k,.int .i64 c]] w fun e w'=>e=.returned (.int .i64 (wid (k,c)))∧Mod [] w w':=by
 go_enter Tryz.func131,Tryz.ntmps131;go_wp2
 all_goals go_ret
 all_goals refine⟨?_,(Mod.refl _ _).alloc _⟩
 all_goals simp_all [wid]
theorem wh (k c:Int) (hk:1≤k) (hk6:k≤6) (w:World):Calls Tryz.prog 146 #[.agg #[.int .i64 k,.int .i64 c]] w fun e w'=>e=.returned (.tuple #[.int .i64 (wid (k,c)),.int .i64 (cu (k,c))])∧Mod [] w w':=by
 go_enter Tryz.func146,Tryz.ntmps146;go_wp2
 all_goals go_ret2
 all_goals refine⟨?_,(Mod.refl _ _).alloc _⟩
 all_goals simp_all [wid,cu]
 all_goals (have:k=6:=by omega);subst this;simp
theorem GH (k c:Int) (w:World):Calls Tryz.prog 171 #[.agg #[.int .i64 k,.int .i64 c]] w fun e w'=>e=.returned (.int .i64 (cu (k,c)))∧Mod [] w w':=by
 go_enter Tryz.func171,Tryz.ntmps171;go_wp2_with (go_at_call 131;refine(nf _ _ _).mono ?_;rintro e w1 ⟨rfl,hm⟩)
 ·go_ret;refine⟨?_,(Mod.refl _ _).alloc _⟩;simp_all [cu]
 ·go_ret;refine⟨?_,((Mod.refl _ _).alloc _).ag hm⟩;simp_all [cu]
theorem yS (n k:Int) (hn:0≤n) (hn2:n≤100000000) (hk:1≤k) (hk2:k≤8) (w:World):Calls Tryz.prog 172 #[.int .i64 n,.int .i64 k] w fun e w'=>e=.returned (.int .i64 (dj n k))∧Mod [] w w':=by
 have hu:=jI (n:=n) hk;unfold dj at hu;have hw:wrap64 ((n+k-1)/k*k)=(n+k-1)/k*k:=by
  generalize(n+k-1)/k*k=z at*;unfold wrap64;omega
 go_enter Tryz.func172,Tryz.ntmps172;go_wp2;go_ret;refine⟨?_,Mod.refl _ _⟩;simp[dj]
theorem yb (n k:Int) (hn:0≤n) (hn2:n≤100000000) (hk:1≤k) (hk2:k≤8) (w:World):Calls Tryz.prog 174 #[.int .i64 n,.int .i64 k] w fun e w'=>e=.returned (.int .i64 (dj n k))∧Mod [] w w':=by
 have hu:=jI (n:=n) hk;unfold dj at hu;have hw:wrap64 ((n+k-1)/k*k)=(n+k-1)/k*k:=by
  generalize(n+k-1)/k*k=z at*;unfold wrap64;omega
 go_enter Tryz.func174,Tryz.ntmps174;go_wp2;go_ret;refine⟨?_,Mod.refl _ _⟩;simp[dj]
theorem wN (k c:Int) (w:World):Calls Tryz.prog 68 #[.agg #[.int .i64 k,.int .i64 c]] w fun e w'=>e=.returned (.int .i64 (bM (k,c)))∧Mod [] w w':=by
 go_enter Tryz.func68,Tryz.ntmps68;go_wp2
 all_goals go_ret
 all_goals refine⟨?_,(Mod.refl _ _).alloc _⟩
 all_goals simp_all [bM]
 all_goals (repeat' split)
 all_goals first|rfl|omega
end Go.Proofs.YtdehaommhbjakaaGreat.Ty
