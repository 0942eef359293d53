/- Joined contracts. No conditions. -/
import Derived.Test.YtdehaommhbjakaaGreatC39
set_option maxHeartbeats 8000000
set_option maxRecDepth 20000
namespace Go.Proofs.YtdehaommhbjakaaGreat
open RowKit Stg
def G4 (bb:Nat) (bs:List Int) (w:World) (f:List Nat):Prop:=∃v,aU [aj bb (.cells #[v] 56 (0,0)),aT v bs.length 5 1 (aR bs)] w f
def dS (bb:Nat) (bs:List Int):ai:=⟨G4 bb bs,fun⟨v,h⟩ hm hT=>⟨v,h.bj hm hT⟩,fun⟨_,h⟩=>h.lt⟩
theorem tj {bb:Nat} {w:World} {f:List Nat} (h:(aj bb (.cells #[.slice none 0 0] 56 (0,0))).on w f):(dS bb []).on w f:=
 ⟨.slice none 0 0,f,[],h,⟨[],[],⟨World.ownsRow_nil _ _ _ _,rfl⟩,rfl,by simp,rfl⟩,by simp,by simp⟩
theorem EI {F:List Nat} {W w:World} {cs:List ai} {bb:Nat} {bs:List Int} (h:af F W (dS bb bs::cs) w):∃v,af F W (aj bb (.cells #[v] 56 (0,0))::aT v bs.length 5 1 (aR bs)::cs) w:=by
 obtain⟨hm,fp,⟨f,g,⟨v,hv⟩,hg,hd,rfl⟩,h4⟩:=h;exact⟨v,hm,f++g,aU.append (cs:=[_,_]) hv hg hd,h4⟩
def jc (s:HS) (p o off n:Int):List Int:=if fx s p o off n=0 then gR (dY s o) off n else []
theorem Ap {c:HC} {k:Nat} {s:HS} (hI:az c k s) (p o off n:Int):0≤fx s p o off n∧fx s p o off n≤29:=by
 have:=kC hI p o 1;unfold fx
 repeat' split
 all_goals omega
theorem GF {F:List Nat} {W w:World} {cs:List ai} {a:HA} {c:HC} {k:Nat} {s:HS} (hc:c.Ok) (hI:az c k s) (hk:k≤1000) {p o off n:Int} (o0:0≤o) (o1:o≤18446744073709551615) {e0:ai} {bo bp bh bf bn bb:Nat}
  (hS:af F W (aB a c s::e0::aj bb (.cells #[.slice none 0 0] 56 (0,0))::aj bn (.cells #[.int .i64 n] 3 (0,0))::aj bf (.cells #[.int .i64 off] 3 (0,0))::aj bo (.cells #[.int .u64 o] 59 (0,0))::aj bp (.cells #[.int .i64 p] 3 (0,0))::aj bh (.cells #[.pointer (some ⟨a.hb,0,none⟩)] 26 (0,0))::cs) w):
  Calls Tryz.prog 41 #[.pointer (some ⟨bh,0,none⟩),.pointer (some ⟨bp,0,none⟩),.pointer (some ⟨bo,0,none⟩),.pointer (some ⟨bn,0,none⟩),.pointer (some ⟨bf,0,none⟩),.pointer (some ⟨bb,0,none⟩)] w fun e w'=>e=.returned (.int .i64 (fx s p o off n))∧af F W (aB a c s::e0::dS bb (jc s p o off n)::aj bn (.cells #[.int .i64 n] 3 (0,0))::aj bf (.cells #[.int .i64 off] 3 (0,0))::aj bo (.cells #[.int .u64 o] 59 (0,0))::aj bp (.cells #[.int .i64 p] 3 (0,0))::aj bh (.cells #[.pointer (some ⟨a.hb,0,none⟩)] 26 (0,0))::cs) w':=by
 obtain⟨B,hB,hS0⟩:=eE hS;have hrs:=zh (lr hc hI hk hS0 p o 1 o0 o1);have c1:=ae (hS0.block 12 rfl);have c2:=ae (hS0.block 13 rfl);have c3:=ae (hS0.block 14 rfl);have hS1:=zh hS0;have hBH:=zh hB;by_cases hE:aV s p o 1=0
 ·have hr0:=gi hE;obtain⟨j,xo,xl,hj,hjn,hlv,hent,hxo,hxl,hby,hmx,hms,hus,hob⟩:=mE hI hr0;have htr:=(hI.cG _ (ic hjn hlv)).2.1;rw[←hent]at htr;have hty:Ty.du (bG s o):=az.mF hc hI htr;rw[hE,kI hE]at hrs;by_cases hn:n<0
  ·have hfd:fx s p o off n=1:=by unfold fx;rw[if_neg (by simp[hE]),if_pos hn]
   have hfb:jc s p o off n=[]:=by unfold jc;rw[hfd];rfl
   have hn1:decide (n<0)=true:=by simpa using hn
   have hfH:=zh (And.intro hfd hfb);generalize a8 s o=X at*;obtain⟨xh,xw,xt,xf,xn⟩:=X;simp only[Tb.b8]at hrs;clear hS hS0 hB hE hfd hfb hj hjn hlv hent hxo hxl hby hmx hms hus hob htr hty hr0 hn;go_enter Tryz.func41,Tryz.ntmps41;go_wp2_with fail;refine hrs.out.mono ?_;rintro e w1 ⟨rfl,hm1⟩;have hm1H:=zh (hm1.alloc (.cells #[.int .u64 xh,.int .i64 xw,.int .i64 xt,.int .i64 xf,.int .i64 xn] 106));have hS2:=zh ((hS1.out.then hm1).alloc (.cells #[.int .u64 xh,.int .i64 xw,.int .i64 xt,.int .i64 xf,.int .i64 xn] 106)).behind;have d0:=ae (hS2.out.block 8 rfl);have d1:=ae (hS2.out.block 11 rfl);have d2:=ae (hS2.out.block 12 rfl);have d3:=ae (hS2.out.block 15 rfl);clear hm1 hrs c1 c2 c3 hS1;go_wp2_with fail;go_ret;rw[hfH.out.1,hfH.out.2];exact⟨rfl,(cz hBH.out (hS2.out.erase 8)).imp 2 rfl fun _ h=>tj h⟩
  ·have hn1:decide (n<0)=false:=by simpa using hn
   have hwi:=zh fun w' (hm:Mod [] w w')=>pL ((hS0.then hm).block 0 rfl) ((hS0.then hm).part 2 rfl).choose_spec.1 (a8 s o) hty off n (by omega)
   have hwe:cY off n (Ty.cC (Ty.aN s.R (a8 s o).tag).1 (Ty.aN s.R (a8 s o).tag).2)=cY off n (fQ s o):=rfl;rw[hwe]at hwi
   cases hw:cY off n (fQ s o)with
   |false=>
    have hfd:fx s p o off n=7:=by unfold fx;rw[if_neg (by simp[hE]),if_neg hn,if_pos hw]
    have hfb:jc s p o off n=[]:=by unfold jc;rw[hfd];rfl
    have hfH:=zh (And.intro hfd hfb);rw[hw]at hwi;generalize a8 s o=X at*;obtain⟨xh,xw,xt,xf,xn⟩:=X;simp only[Tb.b8]at hrs hwi;clear hS hS0 hB hE hfd hfb hj hjn hlv hent hxo hxl hby hmx hms hus hob htr hty hr0 hn hw hwe;go_enter Tryz.func41,Tryz.ntmps41;go_wp2_with fail;refine hrs.out.mono ?_;rintro e w1 ⟨rfl,hm1⟩;have hm1H:=zh (hm1.alloc (.cells #[.int .u64 xh,.int .i64 xw,.int .i64 xt,.int .i64 xf,.int .i64 xn] 106));have hS2:=zh ((hS1.out.then hm1).alloc (.cells #[.int .u64 xh,.int .i64 xw,.int .i64 xt,.int .i64 xf,.int .i64 xn] 106)).behind;have d0:=ae (hS2.out.block 8 rfl);have d1:=ae (hS2.out.block 11 rfl);have d2:=ae (hS2.out.block 12 rfl);have d3:=ae (hS2.out.block 15 rfl);clear hm1 hrs c1 c2 c3 hS1;go_wp2_with fail;refine(hwi.out _ hm1H.out).mono ?_;rintro e w2 ⟨rfl,hm2⟩;have hS3:=zh (hS2.out.then hm2);clear hm2 hwi hS2 d0 d1 d2 d3 hm1H;go_wp2_with fail;go_ret;rw[hfH.out.1,hfH.out.2];exact⟨rfl,(cz hBH.out (hS3.out.erase 8)).imp 2 rfl fun _ h=>tj h⟩
   |true=>
    have hfd:fx s p o off n=0:=by unfold fx;rw[if_neg (by simp[hE]),if_neg hn,if_neg (by simp[hw])]
    rw[hw]at hwi;have hwr:=hw;unfold cY at hwr;simp only[Bool.and_eq_true,decide_eq_true_eq]at hwr;obtain⟨off,rfl⟩:=Int.eq_ofNat_of_zero_le hwr.1;obtain⟨n,rfl⟩:=Int.eq_ofNat_of_zero_le (show 0≤n by omega);have hfb:jc s p o off n=(B.drop (xo+off)).take n:=by
     unfold jc;rw[if_pos hfd,hby];unfold gR;rw[Int.toNat_natCast,Int.toNat_natCast];have hu:=hI.eA;rw[←ft]at hu;have:=hB.read hu hob (p:=off) (n:=n) (by simp only;omega) (by simp only;omega);simp only[Int.toNat_natCast]at this;rw[this]
    have hbl:((B.drop (xo+off)).take n).length=n:=by
     rw[←hfb];unfold jc gR;rw[if_pos hfd,hby];simp;omega
    have hrd:=zh fun w' f' (h':(b6 a.ar c.size (bA c s) B).on w' f')=>Dz h' hus off n (by omega)
    rw[←hfb]at hrd hbl;have hfH:=zh hfd;have hblH:=zh hbl;generalize jc s p o off n=bs at*;obtain⟨X,hX⟩:∃X,a8 s o=X:=⟨_,rfl⟩;rw[hX]at hrs hwi hxo hxl;obtain⟨xh,xw,xt,xf,xn⟩:=X;simp only at hxo hxl;subst hxo hxl;simp only[Tb.b8]at hrs hwi;clear hS hS0 hB hE hfd hfb hj hjn hlv hent hby hmx hms hus hob htr hty hr0 hn hw hwe hX hwr hbl;go_enter Tryz.func41,Tryz.ntmps41;go_wp2_with fail;refine hrs.out.mono ?_;rintro e w1 ⟨rfl,hm1⟩;have hm1H:=zh (hm1.alloc (.cells #[.int .u64 xh,.int .i64 xw,.int .i64 xt,.int .i64 xo,.int .i64 xl] 106));have hS2:=zh ((hS1.out.then hm1).alloc (.cells #[.int .u64 xh,.int .i64 xw,.int .i64 xt,.int .i64 xo,.int .i64 xl] 106)).behind;have d1:=ae (hS2.out.block 11 rfl);have d2:=ae (hS2.out.block 12 rfl);have d3:=ae (hS2.out.block 15 rfl);clear hm1 hrs c1 c2 c3 hS1;go_wp2_with fail;refine(hwi.out _ hm1H.out).mono ?_;rintro e w2 ⟨rfl,hm2⟩;have hS3:=zh (hS2.out.then hm2);clear hm2 hwi hS2 d1 d2 d3 hm1H;go_wp2_with fail;generalize w1.heap.size=bx at*;obtain⟨fv,⟨hbv,rfl⟩,hput,hne⟩:=hS3.out.mD 10 rfl;have k1:=GW.cells (S:=[bb]) (hS3.out.block 0 rfl) (hne 0 _ _ rfl);have k2:=GW.cells (S:=[bb]) (hS3.out.block 8 rfl) (hne 8 _ _ rfl);have k3:=GW.cells (S:=[bb]) (hS3.out.block 11 rfl) (hne 10 _ _ rfl);have k4:=GW.cells (S:=[bb]) (hS3.out.block 12 rfl) (hne 11 _ _ rfl);have k5:=GW.cells (S:=[bb]) (hS3.out.block 15 rfl) (hne 14 _ _ rfl);have hlH:=zh fun w' (hm:Mod [] w2 w')=>hrd.out w' _ ((hS3.out.then hm).part 1 rfl).choose_spec.1
    have hbvH:=zh hbv;clear hput hne hrd hbv;refine bV [bb] (by kernel_rfl) (by kernel_rfl) ?_;refine sq 8 ?_;refine cD 44 #[.pointer (some ⟨a.ar,0,none⟩),.agg #[.int .i64 xo,.int .i64 xl],.int .i64 off,.int .i64 n] (fun v=>∃m l q,v=.tuple #[.slice m l q,.int .i64 0]) (fun v w'=>Mod [] w2 w'∧∃u,v=.tuple #[u,.int .i64 0]∧w'.ownsRow w2.heap.size 5 1 u n (aR bs)) rfl Tryz.call44 rfl rfl ⟨_,none,0,0,rfl⟩ (fun w' hm=> ?_) (fun v w' h=>ah.of (h.1.mono (by simp))) (fun v hv=> ?_)
    ·refine(hlH.out w' hm).mono ?_;rintro e w'' ⟨u,rfl,h1,h2⟩;obtain⟨um,un,uq,rfl⟩:=dW h1;exact⟨_,rfl,⟨_,_,_,rfl⟩,hm.ag h2,_,rfl,aE h1 hm.size⟩
    obtain⟨vm,vn,vq,rfl⟩:=hv;refine sq 3 ?_;refine cQ (p:=⟨bb,0,none⟩) (u:=.slice vm vn vq) (fun w'=>w'.setCell ⟨bb,0,none⟩ (.slice vm vn vq)) (fun w'=>∃w0,Mod [] w2 w0∧w0.ownsRow w2.heap.size 5 1 (.slice vm vn vq) n (aR bs)∧w'=w0.setCell ⟨bb,0,none⟩ (.slice vm vn vq)) rfl rfl rfl rfl rfl (fun w' hw=> ?_) (fun w' hw=> ?_) (fun w' ⟨w0,hw,_,e⟩=> ?_) ?_
    ·have d1:=ae (hw.1.at hbvH.out (by simp));have d2:=ay (hw.1.at hbvH.out (by simp));clear k1 k2 k3 k4 k5 hw;go_simp
    ·obtain⟨h1,u,hu,h2⟩:=hw;obtain rfl:u=.slice vm vn vq:=by simpa using hu.symm
     exact⟨w',h1,h2,rfl⟩
    ·subst e;exact ah.of ((hw.mono (by simp)).setCell (.inl (by simp)) _)
    refine sq 1 ?_;refine au fun w3 cM=> ?_
    obtain⟨w0,hm0,hr0,rfl⟩:=cM;have hS4:=(hS3.out.add (c:=aT (.slice vm vn vq) n 5 1 (aR bs)) (f:=(Value.slice vm vn vq).ownBlock.toList) hm0 ⟨aE hr0 (Nat.zero_le _),rfl⟩ (fun x hx=>(hr0.lt x (by simpa using hx)).1)).behind.bO 11 rfl 0 (.slice vm vn vq);have hS4:=zh hS4;clear k1 k2 k3 k4 k5 hlH hm0 hr0 hS3;go_wp2_with fail;go_ret;refine⟨by rw[hfH.out];rfl,?_⟩;have h1:af F W (aB a c s::aT (.slice vm vn vq) n 5 1 (aR bs)::e0::aj bb (.cells #[.slice vm vn vq] 56 (0,0))::aj bn (.cells #[.int .i64 n] 3 (0,0))::aj bf (.cells #[.int .i64 off] 3 (0,0))::aj bo (.cells #[.int .u64 o] 59 (0,0))::aj bp (.cells #[.int .i64 p] 3 (0,0))::aj bh (.cells #[.pointer (some ⟨a.hb,0,none⟩)] 26 (0,0))::cs) _:=cz hBH.out (hS4.out.erase 9);have h2:=((h1.out 1 rfl).out 3 rfl);have h3:=af.js (c:=dS bb bs) [aj bb (.cells #[.slice vm vn vq] 56 (0,0)),aT (.slice vm vn vq) n 5 1 (aR bs)] h2 fun g hg=>⟨.slice vm vn vq,by rw[hblH.out];exact hg⟩
    exact(h3.out 2 rfl).out 2 rfl
 ·have hfd:fx s p o off n=aV s p o 1:=by unfold fx;rw[if_pos hE]
  have hfb:jc s p o off n=[]:=by unfold jc;rw[if_neg (by rw[hfd];exact hE)]
  rw[hfd,hfb];rw[j3 hE]at hrs;generalize aV s p o 1=E at*;have hne:(E != 0)=true:=by simpa using hE
  clear hS hS0 hB hfd hE hfb;go_enter Tryz.func41,Tryz.ntmps41;go_wp2_with fail;refine hrs.out.mono ?_;rintro e w1 ⟨rfl,hm1⟩;have hS2:=zh ((hS1.out.then hm1).then ((Mod.refl [] w1).alloc (.cells #[.int .u64 0,.int .i64 0,.int .i64 0,.int .i64 0,.int .i64 0] 106)));clear hm1 hrs hS1 c1 c2 c3;go_wp2_with fail;go_ret;exact⟨rfl,(cz hBH.out hS2.out).imp 2 rfl fun _ h=>tj h⟩
theorem yp {F:List Nat} {W w:World} {cs:List ai} {a:HA} {c:HC} {k:Nat} {s:HS} (hc:c.Ok) (hI:az c k s) (hk:k≤900) {p o off n:Int} (o0:0≤o) (o1:o≤18446744073709551615) (hS:af F W (aB a c s::cs) w):
  Calls Tryz.prog 13 #[.pointer (some ⟨a.hb,0,none⟩),.int .i64 p,.int .u64 o,.int .i64 off,.int .i64 n] w fun e w'=>∃v,e=.returned (.tuple #[v,.int .i64 (fK c s p o off n).1])∧af F W (aT v (fJ c s p o off n).length 5 1 (aR (fJ c s p o off n))::aB a c (fK c s p o off n).2::cs) w':=by
 have hS1:=(((((((((hS.alloc (.cells #[.pointer (some ⟨a.hb,0,none⟩)] 26)).swap.alloc (.cells #[.int .i64 p] 3)).swap.alloc (.cells #[.int .u64 o] 59)).swap.alloc (.cells #[.int .i64 off] 3)).swap.alloc (.cells #[.int .i64 n] 3)).swap.alloc (.cells #[.slice none 0 0] 56)).swap.alloc (.cells #[.int .i64 p,.int .i64 5,.int .u64 o,.int .u64 (u64 off),.int .i64 0] 100)).swap));simp only[size_alloc]at hS1;have hr:=Ap hI p o off n;have hu:0≤u64 off∧u64 off≤18446744073709551615:=by unfold u64;omega
 have hact:=zh (vZ (r:=fx s p o off n) (g:=41) hI (by omega) hS1 (by omega) hu Tryz.call41 hr ⟨o0,o1⟩ fun _ w' h'=>GF hc hI (by omega) o0 o1 h');have hv1:s.st p≠1→fJ c s p o off n=[]:=fun h=>by unfold fJ fK gB;rw[if_pos h];simp
 have hv2:s.st p=1→fJ c s p o off n=jc s p o off n:=fun h=>by
  unfold fJ fK gB jc;by_cases e:fx s p o off n=0
  ·simp[h,e]
  ·simp[h,e]
 have hvH:=zh (And.intro hv1 hv2);have hog:gB c s p 5 o (u64 off) (fx s p o off n)=fK c s p o off n:=rfl;rw[hog]at hact;generalize fK c s p o off n=res at*;generalize fJ c s p o off n=V at*;clear hS hS1 hr hv1 hv2 hog;go_enter Tryz.func13,Tryz.ntmps13;go_wp2_with fail;refine hact.out.mono ?_;rintro e w1 ⟨rfl,er2,cs2,hS2,hcs⟩;rcases hcs with⟨hst,rfl⟩|⟨hst,rfl⟩
 ·have e1:=hvH.out.1 hst;subst e1;have hS2:=zh hS2;have d1:=ae (hS2.out.block 2 rfl);clear hact hst;go_wp2_with fail;go_ret2;refine⟨_,rfl,?_⟩;exact(((((((hS2.out.erase 1).erase 1).erase 1).erase 1).erase 1).erase 1).erase 1).add (f:=[]) (Mod.refl [] _) ⟨World.ownsRow_nil _ _ _ _,rfl⟩ (by simp)
 ·have e1:=hvH.out.2 hst;subst e1;obtain⟨v,hS3⟩:=EI (hS2.out 2 rfl);obtain⟨va,vl,vc,rfl⟩:=dW (hS3.row 1 rfl);have hS3:=zh hS3;have d1:=ae (hS3.out.block 0 rfl);clear hact hst hS2;go_wp2_with fail;go_ret2;refine⟨_,rfl,?_⟩;exact(((((((hS3.out.erase 0).erase 2).erase 2).erase 2).erase 2).erase 2).erase 2)
end Go.Proofs.YtdehaommhbjakaaGreat
