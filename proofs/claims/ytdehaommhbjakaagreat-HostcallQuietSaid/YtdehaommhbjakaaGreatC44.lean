/- Joined contracts. No conditions. -/
import Derived.Test.YtdehaommhbjakaaGreatC36
set_option maxHeartbeats 8000000
set_option maxRecDepth 20000
namespace Go.Proofs.YtdehaommhbjakaaGreat
open RowKit Stg
open Ty (aw)
theorem ux {c:HC} {s:HS} (p tag:Int):0≤cS c s p tag∧cS c s p tag≤29:=by
 unfold cS
 repeat' split
 all_goals omega
theorem lx {c:HC} {s:HS} {p tag:Int} (h:cS c s p tag≠0) (d:Int):df c s p tag d=s∧fM c s p tag d=0:=
 ⟨by unfold df;rw[if_neg h],by unfold fM;rw[if_neg h]⟩
theorem BJ {c:HC} {k:Nat} {s:HS} (hc:c.Ok) (hI:az c k s) {tag:Int} (ht:Ty.ee s.R tag=0):eW (bK c.size (bA c s)) (bI s tag)=(if cT (cB (bI s tag)) (im c s)=none then 18 else 0)∧
  (cT (cB (bI s tag)) (im c s)≠none→dn (bK c.size (bA c s)) (bI s tag)=bJ c s tag):=by
 obtain⟨htr,hty⟩:=az.ty hc hI tag ht;have hsz:1≤bI s tag∧bI s tag≤65536:=size_pos hty;obtain⟨r1,r2,r3,r4⟩:=nU hsz.1 hsz.2;have e:eW (bK c.size (bA c s)) (bI s tag)=(if cT (cB (bI s tag)) (im c s)=none then 18 else 0):=by
  unfold eW im;rw[if_neg (by omega)]
 refine⟨e,fun hb=> ?_⟩;unfold dn;rw[e,if_neg hb,if_pos rfl];rfl
theorem u9 {c:HC} {s:HS} (hc:c.Ok):(bA c s).length≤5000:=by
 have h1:(bA c s).length≤c.n:=by
  unfold bA iq Tb.qI;rw[List.length_map];exact Nat.le_trans (List.length_filterMap_le _ _) (by simp)
 have:=hc.n;omega
theorem vr {F:List Nat} {W w:World} {cs:List ai} {a:HA} {c:HC} {k:Nat} {s:HS} {R:List Ty.Ty} {pl tag d xo N:Int} {B:List Int} (hR:s.R=R)
  (hcm:tU c k s (df c s pl tag d) (bJ c s tag,List.replicate (bI s tag).toNat 0) pl) (h0:cS c s pl tag=0) (hx1:(bJ c s tag).1=xo) (hx2:(bJ c s tag).2=N) (hB:cd c.size (ct c s) B)
  (h:af F W (aj a.hb (jX a)::b6 a.ar c.size (bA c s++[bJ c s tag]) B::Ty.dN 156 a.rt R::Tb.gy a.tb a.ev a.b a.pb a.sl c.first (Tb.dp c.first s.T pl tag xo N d)::Bw.eu a.lb s.L::jm a.mb c.lim (Qt.fS (aF c s) pl ((aF c s pl).add ⟨N,1,0⟩))::dG a.gb c.cap s.evs s.miss::gW a.sm s.st::cs) w):
  af F W (aB a c (df c s pl tag d)::cs) w:=by
 subst hR hx1 hx2;obtain⟨A,C,g1,g2⟩:=hcm.ct;have hu:=hcm.inv.eA;have e1:bA c s=(A++C).map (·.1):=by rw[←ft,g1]
 have e2:bA c (df c s pl tag d)=(A++(bJ c s tag,List.replicate (bI s tag).toNat 0)::C).map (·.1):=by rw[←ft,g2]
 have hp:(bA c s++[bJ c s tag]).Perm (bA c (df c s pl tag d)):=by
  rw[e1,e2];simp only[List.map_append,List.map_cons];exact List.perm_append_comm.trans (show(bJ c s tag::(A.map (·.1)++C.map (·.1))).Perm _ from List.perm_middle.symm)
 have hB2:cd c.size (ct c (df c s pl tag d)) B:=by
  rw[g2];rw[g1]at hB;exact hB.alloc (by rw[←e2];exact hu)
 have h2:=h.imp 1 rfl fun f h=>b6.perm h hp
 have hfm:=fun q=>D6 hcm q
 have hs:df c s pl tag d={s with T:=Tb.dp c.first s.T pl tag (bJ c s tag).1 (bJ c s tag).2 d,mem:=s.mem.set (Tb.bT s.T.g.F d) (List.replicate (bI s tag).toNat 0)}:=by unfold df;rw[if_pos h0]
 generalize df c s pl tag d=s' at*;have q1:s'.R=s.R:=by rw[hs]
 have q2:s'.T=Tb.dp c.first s.T pl tag (bJ c s tag).1 (bJ c s tag).2 d:=by rw[hs]
 have q3:s'.L=s.L:=by rw[hs]
 have q4:s'.evs=s.evs:=by rw[hs]
 have q5:s'.miss=s.miss:=by rw[hs]
 have q6:s'.st=s.st:=by rw[hs]
 exact jg (s':=s') rfl hfm hB2 (by rw[q1,q2,q3,q4,q5,q6];exact h2)
theorem Gb {F:List Nat} {W w:World} {cs:List ai} {a:HA} {c:HC} {k:Nat} {s:HS} (hc:c.Ok) (hI:az c k s) (_:k≤1000) {pl tag d:Int} (hst:s.st pl=1) (d0:0≤d) (d1:d≤18446744073709551615) {evb bd bt bp bh bv:Nat}
  (hS:af F W (aB a c s::aj evb (.cells #[.int .i64 pl,.int .i64 1,.int .u64 0,.int .u64 (u64 tag),.int .i64 0] 100 (0,0))::aj bv (.cells #[.pointer (some ⟨evb,0,none⟩)] 102 (0,0))::aj bd (.cells #[.int .u64 d] 31 (0,0))::aj bt (.cells #[.int .i64 tag] 3 (0,0))::aj bp (.cells #[.int .i64 pl] 3 (0,0))::aj bh (.cells #[.pointer (some ⟨a.hb,0,none⟩)] 26 (0,0))::cs) w):
  Calls Tryz.prog 99 #[.pointer (some ⟨bh,0,none⟩),.pointer (some ⟨bt,0,none⟩),.pointer (some ⟨bp,0,none⟩),.pointer (some ⟨bd,0,none⟩),.pointer (some ⟨bv,0,none⟩)] w fun e w'=>e=.returned (.int .i64 (cS c s pl tag))∧af F W (aB a c (df c s pl tag d)::aj evb (.cells #[.int .i64 pl,.int .i64 1,.int .u64 (fM c s pl tag d),.int .u64 (u64 tag),.int .i64 0] 100 (0,0))::aj bv (.cells #[.pointer (some ⟨evb,0,none⟩)] 102 (0,0))::aj bd (.cells #[.int .u64 d] 31 (0,0))::aj bt (.cells #[.int .i64 tag] 3 (0,0))::aj bp (.cells #[.int .i64 pl] 3 (0,0))::aj bh (.cells #[.pointer (some ⟨a.hb,0,none⟩)] 26 (0,0))::cs) w':=by
 obtain⟨B,hB,hS0⟩:=eE hS;have hBH:=zh hB;have k1:=GW.cells (S:=[]) (hS0.block 0 rfl) (by simp);have k2:=GW.cells (S:=[]) (hS0.block 11 rfl) (by simp);have k3:=GW.cells (S:=[]) (hS0.block 13 rfl) (by simp);generalize hR:s.R=R at*;have hlk:=zh fun w' (hm:Mod [] w w')=>Ty.we ((hS0.then hm).part 2 rfl).choose_spec.1 tag
 generalize hW0:w=W0 at*;by_cases hE:Ty.ee R tag=0
 ·obtain⟨htr,hty⟩:=az.ty hc hI tag (by rw[hR];exact hE);have hsz0:1≤bI s tag∧bI s tag≤65536:=size_pos hty;obtain⟨r1,r2,r3,r4⟩:=nU hsz0.1 hsz0.2;have hrd:=zh fun w'=>xB (bI s tag) w'
  rw[r1]at hrd;obtain⟨hfE,hfX⟩:=BJ hc hI (tag:=tag) (by rw[hR];exact hE);have hty1:Ty.du (Ty.aN R tag):=by rw[←hR];exact hty
  have hsT:bI s tag=Ty.cC (Ty.aN R tag).1 (Ty.aN R tag).2:=by rw[←hR];rfl
  have hbd:=hty1.bounds;have he:Ty.bS (Ty.aN R tag).1 (Ty.aN R tag).2=0:=hty1;have hsz:=zh fun v w' (hv:aw w' v (Ty.aN R tag).2)=>(show Calls Tryz.prog _ _ _ (fun e w''=>e=.returned (.tuple #[.int .i64 (bI s tag),.int .i64 0])∧Mod [] w' w'') by
   have:=Ty.xY (Ty.aN R tag).1 v (Ty.aN R tag).2 w' hv (by omega) (by omega);unfold Ty.oY at this;rw[if_pos he,he, ←hsT]at this;exact this)
  have hEH:=zh hE;have hAE:cS c s pl tag=if Qt.cj c.lim (aF c s pl) (wq (cB (bI s tag)))≠0 then 16 else if s.T.g.F.length=0 then 17 else if cT (cB (bI s tag)) (im c s)=none then 18 else 0:=by
   unfold cS;rw[hR,if_neg (by omega)]
  have hAEH:=zh hAE;have hfEH:=zh hfE;have hfXH:=zh hfX;have hszH:=zh hsz0;have hrH:=zh (And.intro r2 (And.intro r3 r4));obtain⟨n,hn⟩:∃n,bI s tag=n:=⟨_,rfl⟩;obtain⟨N,hN⟩:∃N,cB n=N:=⟨_,rfl⟩;have hnH:=zh (And.intro hn hN);rw[hn]at hsz hrd;rw[hN]at hrd;unfold Ty.ox at hlk;rw[hE]at hlk;generalize hgE:cS c s pl tag=rE;generalize hgS:df c s pl tag d=rS;generalize hgH:fM c s pl tag d=rH;have hg:=zh (And.intro hgE (And.intro hgS hgH));clear hgE hgS hgH;clear hS hB htr hty hsz0 r1 r2 r3 r4 hfE hfX hty1 hsT hbd he hAE hn hN hW0;go_enter Tryz.func99,Tryz.ntmps99;go_wp2_with fail;refine iQ 9 _ (fun w'=>∃x:GW [] W0,w'=x.1) (fun w'=>Mod [] W0 w') (by kernel_rfl) rfl rfl (by kernel_rfl) (by kernel_rfl) (fun _ h=>ah.of h) (Mod.refl _ _).drew ?_;dsimp only[List.getElem_toArray,List.getElem_cons_succ,List.getElem_cons_zero];refine dd 5 (by kernel_rfl) (by decide) ?_;simp only[tA,tB,tC,tD,Nat.reduceAdd];(repeat go_big_quiet_step (fail));refine wpQuiet_nil ?_;refine fh (by decide) rfl rfl ?A rfl (by simp) ?B
  case A=>
   refine Tb.jf 100 #[.pointer (some ⟨a.rt,0,none⟩),.int .i64 tag] (fun v=>∃m n k,v=.tuple #[.agg #[.int .i64 (Ty.aN R tag).1,.slice m n k],.int .i64 0]) (fun v w'=>Mod [] W0 w'∧∃u,v=.tuple #[.agg #[.int .i64 (Ty.aN R tag).1,u],.int .i64 0]∧aw w' u (Ty.aN R tag).2) rfl Tryz.call100 rfl ⟨_,none,0,0,rfl⟩ (fun w' hw=> ?_) (fun v w' h=>ah.of h.1) (fun v hv=> ?_)
   ·refine(hlk.out w' hw).mono ?_;rintro e w'' ⟨u,rfl,h1,h2⟩;obtain⟨um,un,uc,rfl⟩:=Ty.aw.slice h1;exact⟨_,rfl,⟨_,_,_,rfl⟩,hw.ag h2,_,rfl,h1⟩
   obtain⟨vm,vn,vc,rfl⟩:=hv;simp only[Act.put,sA,sB,sC];refine dd 3 (by kernel_rfl) (by decide) ?_;simp only[tA,tB,tC,tD,Nat.reduceAdd];(repeat go_big_quiet_step (fail));refine wpQuiet_nil ?_;refine ia ?_;refine aO (fun p=>.pointer (some ⟨p,0,none⟩)) (.cells #[.int .i64 0,.slice none 0 0] 54 (0,0)) (fun p w'=>Mod [] W0 w'∧W0.heap.size≤p∧w'.heap[p]? =some (.cells #[.int .i64 0,.slice none 0 0] 54 (0,0))∧aw w' (.slice vm vn vc) (Ty.aN R tag).2) (by intro s s' h;simpa using h) rfl rfl (fun w' hw=> ?_) (fun w' hw=> ?_) (fun p w' h=>ah.of h.1) (fun p=> ?_)
   ·kernel_rfl
   ·obtain⟨h1,u,hu,h2⟩:=hw;obtain rfl:u=.slice vm vn vc:=by simpa using hu.symm
    exact⟨h1.alloc _,h1.size,an _ _,h2.mod ((Mod.refl [] _).alloc _)⟩
   simp only[Act.put,sA,sB,sC];refine cQ (p:=⟨p,0,none⟩) (u:=.agg #[.int .i64 (Ty.aN R tag).1,.slice vm vn vc]) (fun w'=>(w'.setCell ⟨p,0,none⟩ (.int .i64 (Ty.aN R tag).1)).setCell ⟨p,1,none⟩ (.slice vm vn vc)) (Typed W0 p (Ty.aN R tag) (.slice vm vn vc)) rfl rfl rfl rfl rfl (fun w' hw=> ?_) (fun w' hw=>Typed.set hw.1 hw.2.1 hw.2.2.1 hw.2.2.2) (fun w' h=>ah.of h.1) ?_
   ·have d1:=ae hw.2.2.1;have d2:=ay hw.2.2.1;clear k1 k2 hw;go_simp
   refine sq 1 ?_;refine au fun w1 br=> ?_
   obtain⟨hm1,hp,hbp,hf⟩:=br;have hm1H:=zh hm1;have hp1:=zh hbp;have hf1:=zh hf;have hS1:=zh (hS0.then hm1);have c2:=ae hbp;clear k1 k2 hm1 hbp hf hp hlk hS0;go_wp2_with fail;refine(hsz.out _ _ hf1.out).mono ?_;rintro e w2 ⟨rfl,hm2⟩;have hS2:=zh (hS1.out.then hm2);clear hm2 hsz hf1 hp1 hm1H hS1 c2 k3;go_wp2_with fail;refine(hrd.out _).mono ?_;rintro e w3 ⟨rfl,hm3⟩;have hS3:=zh ((hS2.out.then hm3).alloc (.cells #[.int .i64 N,.int .i64 1,.int .i64 0] 45)).behind;clear hm3 hrd hS2;go_wp2_with fail;have c1:=GW.cells (S:=[]) (hS3.out.block 0 rfl) (by simp);have c2:=GW.cells (S:=[]) (hS3.out.block 8 rfl) (by simp);have c3:=GW.cells (S:=[]) (hS3.out.block 13 rfl) (by simp);have c4:=GW.cells (S:=[]) (hS3.out.block 14 rfl) (by simp);have hfit:=zh fun w' hm=>xr (((hS3.out.then (hm:Mod [] _ w')).part 5 rfl).choose_spec.1) pl ⟨N,1,0⟩
   simp only at hfit;obtain⟨E,hfe⟩:∃E,Qt.cj c.lim (aF c s pl) ⟨N,1,0⟩=E:=⟨_,rfl⟩;rw[hfe]at hfit;have hfeH:=zh hfe;generalize hBX:w3.heap.size=bx at*;clear hfe hBX;refine aS (by kernel_rfl) (by kernel_rfl) ?_;refine sq 6 ?_;refine b7 103 #[.pointer (some ⟨a.mb,0,none⟩),.int .i64 pl,.agg #[.int .i64 N,.int .i64 1,.int .i64 0]] (.int .i64 E) rfl Tryz.call103 rfl rfl hfit.out ?_;refine sq 1 ?_;refine au fun w4 hm4=> ?_
   have hS4:=zh (hS3.out.then hm4);clear hm4 hfit hS3 c1 c2 c3 c4;by_cases hE0:E=0
   ·subst hE0;have hfull:=zh (Tb.xp 3 hS4.out rfl);have c1:=ae (hS4.out.block 0 rfl);have c2:=ae (hS4.out.block 14 rfl);by_cases hF:s.T.g.F.length=0
    ·have hAE:cS c s pl tag=17:=by
      rw[hAEH.out,hnH.out.1,hnH.out.2,if_neg (by rw[show wq N=⟨N,1,0⟩from rfl,hfeH.out];simp),if_pos hF]
     obtain⟨hA1,hA2⟩:=lx (c:=c) (s:=s) (p:=pl) (tag:=tag) (by omega) d;have g1:rE=17:=by rw[←hg.out.1];exact hAE
     have g2:rS=s:=by rw[←hg.out.2.1];exact hA1
     have g3:rH=0:=by rw[←hg.out.2.2];exact hA2
     have g:=zh (And.intro g1 (And.intro g2 g3));clear g1 g2 g3;rw[show decide (s.T.g.F.length=0)=true by simpa using hF]at hfull;clear hF hAE hA1 hA2;go_wp2_with fail;refine hfull.out.mono ?_;rintro e w5 ⟨rfl,hm5⟩;have hS5:=zh (hS4.out.then hm5);clear hm5 hfull hS4 c1 c2;go_wp2_with fail;go_ret;rw[g.out.1,g.out.2.1,g.out.2.2];exact⟨rfl,cz hBH.out (by rw[hR];exact hS5.out.erase 8)⟩
    ·rw[show decide (s.T.g.F.length=0)=false by simpa using hF]at hfull;by_cases hBP:cT N (im c s)=none
     ·have hAE:cS c s pl tag=18:=by
       rw[hAEH.out,hnH.out.1,hnH.out.2,if_neg (by rw[show wq N=⟨N,1,0⟩from rfl,hfeH.out];simp),if_neg hF,if_pos hBP]
      obtain⟨hA1,hA2⟩:=lx (c:=c) (s:=s) (p:=pl) (tag:=tag) (by omega) d;have g1:rE=18:=by rw[←hg.out.1];exact hAE
      have g2:rS=s:=by rw[←hg.out.2.1];exact hA1
      have g3:rH=0:=by rw[←hg.out.2.2];exact hA2
      have g:=zh (And.intro g1 (And.intro g2 g3));have hfe:=hfEH.out;rw[hnH.out.1,hnH.out.2,if_pos hBP]at hfe;have hno:=zh fun w' hm=>vx (((hS4.out.then (hm:Mod [] _ w')).part 1 rfl).choose_spec.1) n (by omega)
      rw[hfe]at hno;clear g1 g2 g3 hF hAE hA1 hA2 hfe hBP;go_wp2_with fail;refine hfull.out.mono ?_;rintro e w5 ⟨rfl,hm5⟩;have hm5H:=zh hm5;have hS5:=zh (hS4.out.then hm5);have c1:=ae (hS5.out.block 0 rfl);have c2:=ae (hS5.out.block 14 rfl);clear hm5 hfull hS4;go_wp2_with fail;refine(hno.out _ hm5H.out).mono ?_;rintro e w6 ⟨rfl,hm6⟩;have hS6:=zh (hS5.out.then hm6);clear hm6 hno hS5 c1 c2 hm5H;go_wp2_with fail;go_ret;rw[g.out.1,g.out.2.1,g.out.2.2];exact⟨rfl,cz hBH.out (by rw[hR];exact((hS6.out.then ((Mod.refl [] _).alloc _)).erase 8))⟩
     ·have hAE:cS c s pl tag=0:=by
       rw[hAEH.out,hnH.out.1,hnH.out.2,if_neg (by rw[show wq N=⟨N,1,0⟩from rfl,hfeH.out];simp),if_neg hF,if_neg hBP]
      obtain⟨hok,hcame⟩:=pQ hc hI (d:=d) hst hAE;have hcaH:=zh hcame;have hokH:=zh hok;have g1:rE=0:=by rw[←hg.out.1];exact hAE
      have g2:rS=df c s pl tag d:=hg.out.2.1.symm;have g3:rH=Tb.ju c.first s.T pl tag d:=by rw[←hg.out.2.2];unfold fM;rw[if_pos hAE]
      have g:=zh (And.intro g1 (And.intro g2 g3));have hAE0:=zh hAE;have hfe:=hfEH.out;have hfx:=hfXH.out;rw[hnH.out.1,hnH.out.2,if_neg hBP]at hfe;rw[hnH.out.1,hnH.out.2]at hfx;have hfx:=hfx hBP;have hyes:=zh fun w' f' h'=>uQ (show(b6 a.ar c.size (bA c s) B).on w' f' from h') n hfe (u9 hc)
      rw[hfx]at hyes;obtain⟨xo,hxo⟩:∃xo,(bJ c s tag).1=xo:=⟨_,rfl⟩;have hx2:(bJ c s tag).2=N:=by unfold bJ;rw[hnH.out.1,hnH.out.2]
      rw[hxo,hx2]at hyes;have hxH:=zh (And.intro hxo hx2);clear g1 g2 g3 hF hAE hfe hfx hBP hok hcame hxo hx2;go_wp2_with fail;refine hfull.out.mono ?_;rintro e w5 ⟨rfl,hm5⟩;have hS5:=zh (hS4.out.then hm5);have c1:=ae (hS5.out.block 0 rfl);have c2:=ae (hS5.out.block 14 rfl);clear hm5 hfull hS4;go_wp2_with fail;obtain⟨fa,ha,hput⟩:=hS5.out.part 1 rfl;refine(hyes.out _ _ ha).mono ?_;rintro e w6 ⟨f',rfl,q1,q2,q3⟩;have hS6:=zh ((hput w6 f' _ q1 q2 q3).alloc (.cells #[.int .i64 xo,.int .i64 N] 104));clear hput ha hyes q1 q2 q3 c1 c2 hS5;go_wp2_with fail;generalize w6.heap.size=bz at*;obtain⟨fm,hl,hput,hne⟩:=hS6.out.dJ 6 rfl;have k1:=GW.cells (S:=fm) (hS6.out.block 1 rfl) (hne 1 _ _ rfl);have k2:=GW.cells (S:=fm) (hS6.out.block 9 rfl) (hne 8 _ _ rfl);have k3:=GW.cells (S:=fm) (hS6.out.block 14 rfl) (hne 13 _ _ rfl);have k4:=GW.cells (S:=fm) (hS6.out.block 15 rfl) (hne 14 _ _ rfl);have hlH:=zh fun w' hm=>qq (hl w' hm) pl ⟨N,1,0⟩ hfeH.out
      simp only at hlH;have hputH:=zh hput;clear hl hput hne;refine bV fm (by kernel_rfl) (by kernel_rfl) ?_;refine sq 6 ?_;refine cE 106 #[.pointer (some ⟨a.mb,0,none⟩),.int .i64 pl,.agg #[.int .i64 N,.int .i64 1,.int .i64 0]] (.int .i64 0) rfl Tryz.call106 rfl rfl hlH.out ?_;refine sq 0 ?_;refine au fun w7 hw7=> ?_
      have hS7:=zh (hputH.out w7 _ hw7);clear k1 k2 k3 k4 hlH hputH hw7 hS6;go_wp2_with fail;obtain⟨fm,hl,hput,hne⟩:=hS7.out.dJ 4 rfl;obtain⟨fv,⟨hbv,rfl⟩,_,hnv⟩:=hS7.out.mD 10 rfl;have k1:=GW.cells (S:=evb::fm) (hS7.out.block 1 rfl) (fun h=>(List.mem_cons.1 h).elim (fun e=>hnv 1 _ _ rfl (by simp[e])) (hne 1 _ _ rfl));have k2:=GW.cells (S:=evb::fm) (hS7.out.block 0 rfl) (fun h=>(List.mem_cons.1 h).elim (fun e=>hnv 0 _ _ rfl (by simp[e])) (hne 0 _ _ rfl));have k3:=GW.cells (S:=evb::fm) (hS7.out.block 11 rfl) (fun h=>(List.mem_cons.1 h).elim (fun e=>hnv 10 _ _ rfl (by simp[e])) (hne 10 _ _ rfl));have k4:=GW.cells (S:=evb::fm) (hS7.out.block 12 rfl) (fun h=>(List.mem_cons.1 h).elim (fun e=>hnv 11 _ _ rfl (by simp[e])) (hne 11 _ _ rfl));have k5:=GW.cells (S:=evb::fm) (hS7.out.block 13 rfl) (fun h=>(List.mem_cons.1 h).elim (fun e=>hnv 12 _ _ rfl (by simp[e])) (hne 12 _ _ rfl));have k6:=GW.cells (S:=evb::fm) (hS7.out.block 14 rfl) (fun h=>(List.mem_cons.1 h).elim (fun e=>hnv 13 _ _ rfl (by simp[e])) (hne 13 _ _ rfl));have k7:=GW.cells (S:=evb::fm) (hS7.out.block 15 rfl) (fun h=>(List.mem_cons.1 h).elim (fun e=>hnv 14 _ _ rfl (by simp[e])) (hne 14 _ _ rfl));have hnf:evb∉fm:=hne 9 _ _ rfl;have hnfH:=zh hnf;have hbvH:=zh hbv;have hlH:=zh fun w' hm=>Tb.vM hI.ew hc.n hc.f1 hc.f2 pl tag xo N d d0 d1 (hl w' hm)
      simp only[Tb.kX]at hlH;have hputH:=zh hput;obtain⟨H,hHe⟩:∃H,Tb.ju c.first s.T pl tag d=H:=⟨_,rfl⟩;have hHH:=zh hHe;rw[hHe]at hlH;clear hl hput hne hnv hnf hbv hHe;refine bV (evb::fm) (by kernel_rfl) (by kernel_rfl) ?_;refine sq 9 ?_;refine dL 107 #[.pointer (some ⟨a.tb,0,none⟩),.int .i64 pl,.int .i64 tag,.agg #[.int .i64 xo,.int .i64 N],.int .u64 d] (.tuple #[.int .u64 H,.int .i64 (Tb.nF s.T pl tag)]) (fun w'=>la (Tb.gy a.tb a.ev a.b a.pb a.sl c.first (Tb.dp c.first s.T pl tag xo N d)) fm w7 w') rfl Tryz.call107 rfl rfl (fun w hm=>(hlH.out w hm).mono fun _ _ ⟨f',he,q1,q2,q3⟩=>⟨he,(hm.mono (by simp)).trans q2,f',q1,fun x hx=>(q3 x hx).imp id fun h=>Nat.le_trans hm.size h⟩) (fun _ h=>ah.of (h.1.mono (fun x hx=>List.mem_cons_of_mem _ hx))) ?_;refine sq 5 ?_;refine cQ (p:=⟨evb,2,none⟩) (u:=.int .u64 H) (fun w'=>w'.setCell ⟨evb,2,none⟩ (.int .u64 H)) (fun w'=>∃w0,la (Tb.gy a.tb a.ev a.b a.pb a.sl c.first (Tb.dp c.first s.T pl tag xo N d)) fm w7 w0∧w'=w0.setCell ⟨evb,2,none⟩ (.int .u64 H)) rfl rfl rfl rfl rfl (fun w' hw=> ?_) (fun w' hw=>⟨w',hw,rfl⟩) (fun w' ⟨w0,hw,e⟩=> ?_) ?_
      ·have d1:=ae (hw.1.at hbvH.out hnfH.out);have d2:=ay (hw.1.at hbvH.out hnfH.out);clear k1 k2 k3 k4 k5 k6 k7 hw;go_simp
      ·subst e;exact ah.of ((hw.1.mono (fun x hx=>List.mem_cons_of_mem _ hx)).setCell (.inl (by simp)) _)
      refine sq 0 ?_;refine au fun w8 hw8=> ?_
      obtain⟨w0,hw0,rfl⟩:=hw8;have hS8:=zh ((hputH.out w0 _ hw0).bO 10 rfl 2 (.int .u64 H));clear k1 k2 k3 k4 k5 k6 k7 hlH hputH hw0 hS7;go_wp2_with fail;go_ret;rw[g.out.1,g.out.2.1,g.out.2.2,hHH.out];refine⟨rfl,?_⟩;exact vr hR hcaH.out hAE0.out hxH.out.1 hxH.out.2 hBH.out ((hS8.out.erase 0).erase 8)
   ·have h16:E=16:=by
     have:=hfeH.out;have hr:=hrH.out;rw[hnH.out.1,hnH.out.2]at hr;unfold Qt.cj at this;rw[if_neg (by simp[Qt.gT];omega)]at this;split at this
     ·exact absurd this.symm hE0
     ·exact this.symm
    subst h16;have hAE:cS c s pl tag=16:=by
     rw[hAEH.out,hnH.out.1,hnH.out.2,if_pos (by rw[show wq N=⟨N,1,0⟩from rfl,hfeH.out];simp)]
    obtain⟨hA1,hA2⟩:=lx (c:=c) (s:=s) (p:=pl) (tag:=tag) (by omega) d;have g1:rE=16:=by rw[←hg.out.1];exact hAE
    have g2:rS=s:=by rw[←hg.out.2.1];exact hA1
    have g3:rH=0:=by rw[←hg.out.2.2];exact hA2
    have g:=zh (And.intro g1 (And.intro g2 g3));clear g1 g2 g3;clear hE0 hAE hA1 hA2;go_wp2_with fail;go_ret;rw[g.out.1,g.out.2.1,g.out.2.2];exact⟨rfl,cz hBH.out (by rw[hR];exact hS4.out.erase 8)⟩
  case B=>
   simp only[Nat.reduceSub,List.eraseIdx_cons_succ,List.eraseIdx_cons_zero];refine aO (fun p=>.pointer (some ⟨p,0,none⟩)) (.cells #[.int .i64 0,.slice none 0 0] 54 (0,0)) (fun p w'=>Mod [] W0 w'∧W0.heap.size≤p∧w'.heap[p]? =some (.cells #[.int .i64 0,.slice none 0 0] 54 (0,0))) (by intro s s' h;simpa using h) rfl rfl (fun w' hw=> ?_) (fun w' hw=>⟨hw.alloc _,hw.size,an _ _⟩) (fun p w' h=>ah.of h.1) (fun p=> ?_)
   ·kernel_rfl
   simp only[Act.put,sA,sB,sC];refine cD 100 #[.pointer (some ⟨a.rt,0,none⟩),.int .i64 tag] (fun v=>∃m n k,v=.tuple #[.agg #[.int .i64 (Ty.aN R tag).1,.slice m n k],.int .i64 0]) (fun v w'=>Mod [] W0 w'∧W0.heap.size≤p∧w'.heap[p]? =some (.cells #[.int .i64 0,.slice none 0 0] 54 (0,0))∧∃u,v=.tuple #[.agg #[.int .i64 (Ty.aN R tag).1,u],.int .i64 0]∧aw w' u (Ty.aN R tag).2) rfl Tryz.call100 rfl rfl ⟨_,none,0,0,rfl⟩ (fun w' hw=> ?_) (fun v w' h=>ah.of h.1) (fun v hv=> ?_)
   ·refine(hlk.out w' hw.1).mono ?_;rintro e w'' ⟨u,rfl,h1,h2⟩;obtain⟨um,un,uc,rfl⟩:=Ty.aw.slice h1;exact⟨_,rfl,⟨_,_,_,rfl⟩,hw.1.ag h2,hw.2.1,h2.at hw.2.2 (by simp),_,rfl,h1⟩
   obtain⟨vm,vn,vc,rfl⟩:=hv;refine sq 3 ?_;refine sy (fun w'=>Mod [] W0 w'∧W0.heap.size≤p∧w'.heap[p]? =some (.cells #[.int .i64 0,.slice none 0 0] 54 (0,0))∧aw w' (.slice vm vn vc) (Ty.aN R tag).2) (fun w' hw=> ?_) ?_
   ·obtain⟨h1,h2,h3,u,hu,h4⟩:=hw;obtain rfl:u=.slice vm vn vc:=by simpa using hu.symm
    exact⟨h1,h2,h3,h4⟩
   refine cQ (p:=⟨p,0,none⟩) (u:=.agg #[.int .i64 (Ty.aN R tag).1,.slice vm vn vc]) (fun w'=>(w'.setCell ⟨p,0,none⟩ (.int .i64 (Ty.aN R tag).1)).setCell ⟨p,1,none⟩ (.slice vm vn vc)) (Typed W0 p (Ty.aN R tag) (.slice vm vn vc)) rfl rfl rfl rfl rfl (fun w' hw=> ?_) (fun w' hw=>Typed.set hw.1 hw.2.1 hw.2.2.1 hw.2.2.2) (fun w' h=>ah.of h.1) ?_
   ·have d1:=ae hw.2.2.1;have d2:=ay hw.2.2.1;clear k1 k2 hw;go_simp
   refine sq 1 ?_;refine au fun w1 br=> ?_
   obtain⟨hm1,hp,hbp,hf⟩:=br;have hm1H:=zh hm1;have hp1:=zh hbp;have hf1:=zh hf;have hS1:=zh (hS0.then hm1);have c2:=ae hbp;clear k1 k2 hm1 hbp hf hp hlk hS0;go_wp2_with fail;refine(hsz.out _ _ hf1.out).mono ?_;rintro e w2 ⟨rfl,hm2⟩;have hS2:=zh (hS1.out.then hm2);clear hm2 hsz hf1 hp1 hm1H hS1 c2 k3;go_wp2_with fail;refine(hrd.out _).mono ?_;rintro e w3 ⟨rfl,hm3⟩;have hS3:=zh ((hS2.out.then hm3).alloc (.cells #[.int .i64 N,.int .i64 1,.int .i64 0] 45)).behind;clear hm3 hrd hS2;go_wp2_with fail;have c1:=GW.cells (S:=[]) (hS3.out.block 0 rfl) (by simp);have c2:=GW.cells (S:=[]) (hS3.out.block 8 rfl) (by simp);have c3:=GW.cells (S:=[]) (hS3.out.block 13 rfl) (by simp);have c4:=GW.cells (S:=[]) (hS3.out.block 14 rfl) (by simp);have hfit:=zh fun w' hm=>xr (((hS3.out.then (hm:Mod [] _ w')).part 5 rfl).choose_spec.1) pl ⟨N,1,0⟩
   simp only at hfit;obtain⟨E,hfe⟩:∃E,Qt.cj c.lim (aF c s pl) ⟨N,1,0⟩=E:=⟨_,rfl⟩;rw[hfe]at hfit;have hfeH:=zh hfe;generalize hBX:w3.heap.size=bx at*;clear hfe hBX;refine aS (by kernel_rfl) (by kernel_rfl) ?_;refine sq 6 ?_;refine b7 103 #[.pointer (some ⟨a.mb,0,none⟩),.int .i64 pl,.agg #[.int .i64 N,.int .i64 1,.int .i64 0]] (.int .i64 E) rfl Tryz.call103 rfl rfl hfit.out ?_;refine sq 1 ?_;refine au fun w4 hm4=> ?_
   have hS4:=zh (hS3.out.then hm4);clear hm4 hfit hS3 c1 c2 c3 c4;by_cases hE0:E=0
   ·subst hE0;have hfull:=zh (Tb.xp 3 hS4.out rfl);have c1:=ae (hS4.out.block 0 rfl);have c2:=ae (hS4.out.block 14 rfl);by_cases hF:s.T.g.F.length=0
    ·have hAE:cS c s pl tag=17:=by
      rw[hAEH.out,hnH.out.1,hnH.out.2,if_neg (by rw[show wq N=⟨N,1,0⟩from rfl,hfeH.out];simp),if_pos hF]
     obtain⟨hA1,hA2⟩:=lx (c:=c) (s:=s) (p:=pl) (tag:=tag) (by omega) d;have g1:rE=17:=by rw[←hg.out.1];exact hAE
     have g2:rS=s:=by rw[←hg.out.2.1];exact hA1
     have g3:rH=0:=by rw[←hg.out.2.2];exact hA2
     have g:=zh (And.intro g1 (And.intro g2 g3));clear g1 g2 g3;rw[show decide (s.T.g.F.length=0)=true by simpa using hF]at hfull;clear hF hAE hA1 hA2;go_wp2_with fail;refine hfull.out.mono ?_;rintro e w5 ⟨rfl,hm5⟩;have hS5:=zh (hS4.out.then hm5);clear hm5 hfull hS4 c1 c2;go_wp2_with fail;go_ret;rw[g.out.1,g.out.2.1,g.out.2.2];exact⟨rfl,cz hBH.out (by rw[hR];exact hS5.out.erase 8)⟩
    ·rw[show decide (s.T.g.F.length=0)=false by simpa using hF]at hfull;by_cases hBP:cT N (im c s)=none
     ·have hAE:cS c s pl tag=18:=by
       rw[hAEH.out,hnH.out.1,hnH.out.2,if_neg (by rw[show wq N=⟨N,1,0⟩from rfl,hfeH.out];simp),if_neg hF,if_pos hBP]
      obtain⟨hA1,hA2⟩:=lx (c:=c) (s:=s) (p:=pl) (tag:=tag) (by omega) d;have g1:rE=18:=by rw[←hg.out.1];exact hAE
      have g2:rS=s:=by rw[←hg.out.2.1];exact hA1
      have g3:rH=0:=by rw[←hg.out.2.2];exact hA2
      have g:=zh (And.intro g1 (And.intro g2 g3));have hfe:=hfEH.out;rw[hnH.out.1,hnH.out.2,if_pos hBP]at hfe;have hno:=zh fun w' hm=>vx (((hS4.out.then (hm:Mod [] _ w')).part 1 rfl).choose_spec.1) n (by omega)
      rw[hfe]at hno;clear g1 g2 g3 hF hAE hA1 hA2 hfe hBP;go_wp2_with fail;refine hfull.out.mono ?_;rintro e w5 ⟨rfl,hm5⟩;have hm5H:=zh hm5;have hS5:=zh (hS4.out.then hm5);have c1:=ae (hS5.out.block 0 rfl);have c2:=ae (hS5.out.block 14 rfl);clear hm5 hfull hS4;go_wp2_with fail;refine(hno.out _ hm5H.out).mono ?_;rintro e w6 ⟨rfl,hm6⟩;have hS6:=zh (hS5.out.then hm6);clear hm6 hno hS5 c1 c2 hm5H;go_wp2_with fail;go_ret;rw[g.out.1,g.out.2.1,g.out.2.2];exact⟨rfl,cz hBH.out (by rw[hR];exact((hS6.out.then ((Mod.refl [] _).alloc _)).erase 8))⟩
     ·have hAE:cS c s pl tag=0:=by
       rw[hAEH.out,hnH.out.1,hnH.out.2,if_neg (by rw[show wq N=⟨N,1,0⟩from rfl,hfeH.out];simp),if_neg hF,if_neg hBP]
      obtain⟨hok,hcame⟩:=pQ hc hI (d:=d) hst hAE;have hcaH:=zh hcame;have hokH:=zh hok;have g1:rE=0:=by rw[←hg.out.1];exact hAE
      have g2:rS=df c s pl tag d:=hg.out.2.1.symm;have g3:rH=Tb.ju c.first s.T pl tag d:=by rw[←hg.out.2.2];unfold fM;rw[if_pos hAE]
      have g:=zh (And.intro g1 (And.intro g2 g3));have hAE0:=zh hAE;have hfe:=hfEH.out;have hfx:=hfXH.out;rw[hnH.out.1,hnH.out.2,if_neg hBP]at hfe;rw[hnH.out.1,hnH.out.2]at hfx;have hfx:=hfx hBP;have hyes:=zh fun w' f' h'=>uQ (show(b6 a.ar c.size (bA c s) B).on w' f' from h') n hfe (u9 hc)
      rw[hfx]at hyes;obtain⟨xo,hxo⟩:∃xo,(bJ c s tag).1=xo:=⟨_,rfl⟩;have hx2:(bJ c s tag).2=N:=by unfold bJ;rw[hnH.out.1,hnH.out.2]
      rw[hxo,hx2]at hyes;have hxH:=zh (And.intro hxo hx2);clear g1 g2 g3 hF hAE hfe hfx hBP hok hcame hxo hx2;go_wp2_with fail;refine hfull.out.mono ?_;rintro e w5 ⟨rfl,hm5⟩;have hS5:=zh (hS4.out.then hm5);have c1:=ae (hS5.out.block 0 rfl);have c2:=ae (hS5.out.block 14 rfl);clear hm5 hfull hS4;go_wp2_with fail;obtain⟨fa,ha,hput⟩:=hS5.out.part 1 rfl;refine(hyes.out _ _ ha).mono ?_;rintro e w6 ⟨f',rfl,q1,q2,q3⟩;have hS6:=zh ((hput w6 f' _ q1 q2 q3).alloc (.cells #[.int .i64 xo,.int .i64 N] 104));clear hput ha hyes q1 q2 q3 c1 c2 hS5;go_wp2_with fail;generalize w6.heap.size=bz at*;obtain⟨fm,hl,hput,hne⟩:=hS6.out.dJ 6 rfl;have k1:=GW.cells (S:=fm) (hS6.out.block 1 rfl) (hne 1 _ _ rfl);have k2:=GW.cells (S:=fm) (hS6.out.block 9 rfl) (hne 8 _ _ rfl);have k3:=GW.cells (S:=fm) (hS6.out.block 14 rfl) (hne 13 _ _ rfl);have k4:=GW.cells (S:=fm) (hS6.out.block 15 rfl) (hne 14 _ _ rfl);have hlH:=zh fun w' hm=>qq (hl w' hm) pl ⟨N,1,0⟩ hfeH.out
      simp only at hlH;have hputH:=zh hput;clear hl hput hne;refine bV fm (by kernel_rfl) (by kernel_rfl) ?_;refine sq 6 ?_;refine cE 106 #[.pointer (some ⟨a.mb,0,none⟩),.int .i64 pl,.agg #[.int .i64 N,.int .i64 1,.int .i64 0]] (.int .i64 0) rfl Tryz.call106 rfl rfl hlH.out ?_;refine sq 0 ?_;refine au fun w7 hw7=> ?_
      have hS7:=zh (hputH.out w7 _ hw7);clear k1 k2 k3 k4 hlH hputH hw7 hS6;go_wp2_with fail;obtain⟨fm,hl,hput,hne⟩:=hS7.out.dJ 4 rfl;obtain⟨fv,⟨hbv,rfl⟩,_,hnv⟩:=hS7.out.mD 10 rfl;have k1:=GW.cells (S:=evb::fm) (hS7.out.block 1 rfl) (fun h=>(List.mem_cons.1 h).elim (fun e=>hnv 1 _ _ rfl (by simp[e])) (hne 1 _ _ rfl));have k2:=GW.cells (S:=evb::fm) (hS7.out.block 0 rfl) (fun h=>(List.mem_cons.1 h).elim (fun e=>hnv 0 _ _ rfl (by simp[e])) (hne 0 _ _ rfl));have k3:=GW.cells (S:=evb::fm) (hS7.out.block 11 rfl) (fun h=>(List.mem_cons.1 h).elim (fun e=>hnv 10 _ _ rfl (by simp[e])) (hne 10 _ _ rfl));have k4:=GW.cells (S:=evb::fm) (hS7.out.block 12 rfl) (fun h=>(List.mem_cons.1 h).elim (fun e=>hnv 11 _ _ rfl (by simp[e])) (hne 11 _ _ rfl));have k5:=GW.cells (S:=evb::fm) (hS7.out.block 13 rfl) (fun h=>(List.mem_cons.1 h).elim (fun e=>hnv 12 _ _ rfl (by simp[e])) (hne 12 _ _ rfl));have k6:=GW.cells (S:=evb::fm) (hS7.out.block 14 rfl) (fun h=>(List.mem_cons.1 h).elim (fun e=>hnv 13 _ _ rfl (by simp[e])) (hne 13 _ _ rfl));have k7:=GW.cells (S:=evb::fm) (hS7.out.block 15 rfl) (fun h=>(List.mem_cons.1 h).elim (fun e=>hnv 14 _ _ rfl (by simp[e])) (hne 14 _ _ rfl));have hnf:evb∉fm:=hne 9 _ _ rfl;have hnfH:=zh hnf;have hbvH:=zh hbv;have hlH:=zh fun w' hm=>Tb.vM hI.ew hc.n hc.f1 hc.f2 pl tag xo N d d0 d1 (hl w' hm)
      simp only[Tb.kX]at hlH;have hputH:=zh hput;obtain⟨H,hHe⟩:∃H,Tb.ju c.first s.T pl tag d=H:=⟨_,rfl⟩;have hHH:=zh hHe;rw[hHe]at hlH;clear hl hput hne hnv hnf hbv hHe;refine bV (evb::fm) (by kernel_rfl) (by kernel_rfl) ?_;refine sq 9 ?_;refine dL 107 #[.pointer (some ⟨a.tb,0,none⟩),.int .i64 pl,.int .i64 tag,.agg #[.int .i64 xo,.int .i64 N],.int .u64 d] (.tuple #[.int .u64 H,.int .i64 (Tb.nF s.T pl tag)]) (fun w'=>la (Tb.gy a.tb a.ev a.b a.pb a.sl c.first (Tb.dp c.first s.T pl tag xo N d)) fm w7 w') rfl Tryz.call107 rfl rfl (fun w hm=>(hlH.out w hm).mono fun _ _ ⟨f',he,q1,q2,q3⟩=>⟨he,(hm.mono (by simp)).trans q2,f',q1,fun x hx=>(q3 x hx).imp id fun h=>Nat.le_trans hm.size h⟩) (fun _ h=>ah.of (h.1.mono (fun x hx=>List.mem_cons_of_mem _ hx))) ?_;refine sq 5 ?_;refine cQ (p:=⟨evb,2,none⟩) (u:=.int .u64 H) (fun w'=>w'.setCell ⟨evb,2,none⟩ (.int .u64 H)) (fun w'=>∃w0,la (Tb.gy a.tb a.ev a.b a.pb a.sl c.first (Tb.dp c.first s.T pl tag xo N d)) fm w7 w0∧w'=w0.setCell ⟨evb,2,none⟩ (.int .u64 H)) rfl rfl rfl rfl rfl (fun w' hw=> ?_) (fun w' hw=>⟨w',hw,rfl⟩) (fun w' ⟨w0,hw,e⟩=> ?_) ?_
      ·have d1:=ae (hw.1.at hbvH.out hnfH.out);have d2:=ay (hw.1.at hbvH.out hnfH.out);clear k1 k2 k3 k4 k5 k6 k7 hw;go_simp
      ·subst e;exact ah.of ((hw.1.mono (fun x hx=>List.mem_cons_of_mem _ hx)).setCell (.inl (by simp)) _)
      refine sq 0 ?_;refine au fun w8 hw8=> ?_
      obtain⟨w0,hw0,rfl⟩:=hw8;have hS8:=zh ((hputH.out w0 _ hw0).bO 10 rfl 2 (.int .u64 H));clear k1 k2 k3 k4 k5 k6 k7 hlH hputH hw0 hS7;go_wp2_with fail;go_ret;rw[g.out.1,g.out.2.1,g.out.2.2,hHH.out];refine⟨rfl,?_⟩;exact vr hR hcaH.out hAE0.out hxH.out.1 hxH.out.2 hBH.out ((hS8.out.erase 0).erase 8)
   ·have h16:E=16:=by
     have:=hfeH.out;have hr:=hrH.out;rw[hnH.out.1,hnH.out.2]at hr;unfold Qt.cj at this;rw[if_neg (by simp[Qt.gT];omega)]at this;split at this
     ·exact absurd this.symm hE0
     ·exact this.symm
    subst h16;have hAE:cS c s pl tag=16:=by
     rw[hAEH.out,hnH.out.1,hnH.out.2,if_pos (by rw[show wq N=⟨N,1,0⟩from rfl,hfeH.out];simp)]
    obtain⟨hA1,hA2⟩:=lx (c:=c) (s:=s) (p:=pl) (tag:=tag) (by omega) d;have g1:rE=16:=by rw[←hg.out.1];exact hAE
    have g2:rS=s:=by rw[←hg.out.2.1];exact hA1
    have g3:rH=0:=by rw[←hg.out.2.2];exact hA2
    have g:=zh (And.intro g1 (And.intro g2 g3));clear g1 g2 g3;clear hE0 hAE hA1 hA2;go_wp2_with fail;go_ret;rw[g.out.1,g.out.2.1,g.out.2.2];exact⟨rfl,cz hBH.out (by rw[hR];exact hS4.out.erase 8)⟩
 ·have hfd:cS c s pl tag=20:=by unfold cS;rw[hR,if_pos hE]
  obtain⟨h1,h2⟩:=lx (c:=c) (s:=s) (p:=pl) (tag:=tag) (by omega) d;rw[hfd,h1,h2];have h20:Ty.ee R tag=20:=by
   unfold Ty.ee at hE⊢;split
   ·rename_i h;rw[if_pos h]at hE;exact absurd rfl hE
   ·rfl
  have h20:=zh h20;have hne:(Ty.ee R tag != 0)=true:=by simpa using hE
  clear hS hB hE hfd h1 h2 hW0;go_enter Tryz.func99,Tryz.ntmps99;go_wp2_with fail;refine iQ 9 _ (fun w'=>∃x:GW [] W0,w'=x.1) (fun w'=>Mod [] W0 w') (by kernel_rfl) rfl rfl (by kernel_rfl) (by kernel_rfl) (fun _ h=>ah.of h) (Mod.refl _ _).drew ?_;dsimp only[List.getElem_toArray,List.getElem_cons_succ,List.getElem_cons_zero];refine dd 5 (by kernel_rfl) (by decide) ?_;simp only[tA,tB,tC,tD,Nat.reduceAdd];(repeat go_big_quiet_step (fail));refine wpQuiet_nil ?_;refine fh (by decide) rfl rfl ?A rfl (by simp) ?B
  case A=>
   refine Tb.jf 100 #[.pointer (some ⟨a.rt,0,none⟩),.int .i64 tag] (fun v=>∃m n k,v=.tuple #[.agg #[.int .i64 (Ty.aN R tag).1,.slice m n k],.int .i64 (Ty.ee R tag)]) (fun v w'=>Mod [] W0 w'∧∃u,v=.tuple #[.agg #[.int .i64 (Ty.aN R tag).1,u],.int .i64 (Ty.ee R tag)]∧aw w' u (Ty.aN R tag).2) rfl Tryz.call100 rfl ⟨_,none,0,0,rfl⟩ (fun w' hw=> ?_) (fun v w' h=>ah.of h.1) (fun v hv=> ?_)
   ·refine(hlk.out w' hw).mono ?_;rintro e w'' ⟨u,rfl,h1,h2⟩;obtain⟨um,un,uc,rfl⟩:=Ty.aw.slice h1;exact⟨_,rfl,⟨_,_,_,rfl⟩,hw.ag h2,_,rfl,h1⟩
   obtain⟨vm,vn,vc,rfl⟩:=hv;simp only[Act.put,sA,sB,sC];refine dd 3 (by kernel_rfl) (by decide) ?_;simp only[tA,tB,tC,tD,Nat.reduceAdd];(repeat go_big_quiet_step (fail));refine wpQuiet_nil ?_;refine ia ?_;refine aO (fun p=>.pointer (some ⟨p,0,none⟩)) (.cells #[.int .i64 0,.slice none 0 0] 54 (0,0)) (fun p w'=>Mod [] W0 w'∧W0.heap.size≤p∧w'.heap[p]? =some (.cells #[.int .i64 0,.slice none 0 0] 54 (0,0))∧aw w' (.slice vm vn vc) (Ty.aN R tag).2) (by intro s s' h;simpa using h) rfl rfl (fun w' hw=> ?_) (fun w' hw=> ?_) (fun p w' h=>ah.of h.1) (fun p=> ?_)
   ·kernel_rfl
   ·obtain⟨h1,u,hu,h2⟩:=hw;obtain rfl:u=.slice vm vn vc:=by simpa using hu.symm
    exact⟨h1.alloc _,h1.size,an _ _,h2.mod ((Mod.refl [] _).alloc _)⟩
   simp only[Act.put,sA,sB,sC];refine cQ (p:=⟨p,0,none⟩) (u:=.agg #[.int .i64 (Ty.aN R tag).1,.slice vm vn vc]) (fun w'=>(w'.setCell ⟨p,0,none⟩ (.int .i64 (Ty.aN R tag).1)).setCell ⟨p,1,none⟩ (.slice vm vn vc)) (Typed W0 p (Ty.aN R tag) (.slice vm vn vc)) rfl rfl rfl rfl rfl (fun w' hw=> ?_) (fun w' hw=>Typed.set hw.1 hw.2.1 hw.2.2.1 hw.2.2.2) (fun w' h=>ah.of h.1) ?_
   ·have d1:=ae hw.2.2.1;have d2:=ay hw.2.2.1;clear k1 k2 hw;go_simp
   refine sq 1 ?_;refine au fun w1 br=> ?_
   obtain⟨hm1,hp,hbp,hf⟩:=br;have hm1H:=zh hm1;have hp1:=zh hbp;have hf1:=zh hf;have hS1:=zh (hS0.then hm1);have c2:=ae hbp;clear k1 k2 hm1 hbp hf hp hlk hS0;go_wp2_with fail;go_ret;exact⟨by rw[h20.out];rfl,cz hBH.out (by rw[hR];exact hS1.out)⟩
  case B=>
   simp only[Nat.reduceSub,List.eraseIdx_cons_succ,List.eraseIdx_cons_zero];refine aO (fun p=>.pointer (some ⟨p,0,none⟩)) (.cells #[.int .i64 0,.slice none 0 0] 54 (0,0)) (fun p w'=>Mod [] W0 w'∧W0.heap.size≤p∧w'.heap[p]? =some (.cells #[.int .i64 0,.slice none 0 0] 54 (0,0))) (by intro s s' h;simpa using h) rfl rfl (fun w' hw=> ?_) (fun w' hw=>⟨hw.alloc _,hw.size,an _ _⟩) (fun p w' h=>ah.of h.1) (fun p=> ?_)
   ·kernel_rfl
   simp only[Act.put,sA,sB,sC];refine cD 100 #[.pointer (some ⟨a.rt,0,none⟩),.int .i64 tag] (fun v=>∃m n k,v=.tuple #[.agg #[.int .i64 (Ty.aN R tag).1,.slice m n k],.int .i64 (Ty.ee R tag)]) (fun v w'=>Mod [] W0 w'∧W0.heap.size≤p∧w'.heap[p]? =some (.cells #[.int .i64 0,.slice none 0 0] 54 (0,0))∧∃u,v=.tuple #[.agg #[.int .i64 (Ty.aN R tag).1,u],.int .i64 (Ty.ee R tag)]∧aw w' u (Ty.aN R tag).2) rfl Tryz.call100 rfl rfl ⟨_,none,0,0,rfl⟩ (fun w' hw=> ?_) (fun v w' h=>ah.of h.1) (fun v hv=> ?_)
   ·refine(hlk.out w' hw.1).mono ?_;rintro e w'' ⟨u,rfl,h1,h2⟩;obtain⟨um,un,uc,rfl⟩:=Ty.aw.slice h1;exact⟨_,rfl,⟨_,_,_,rfl⟩,hw.1.ag h2,hw.2.1,h2.at hw.2.2 (by simp),_,rfl,h1⟩
   obtain⟨vm,vn,vc,rfl⟩:=hv;refine sq 3 ?_;refine sy (fun w'=>Mod [] W0 w'∧W0.heap.size≤p∧w'.heap[p]? =some (.cells #[.int .i64 0,.slice none 0 0] 54 (0,0))∧aw w' (.slice vm vn vc) (Ty.aN R tag).2) (fun w' hw=> ?_) ?_
   ·obtain⟨h1,h2,h3,u,hu,h4⟩:=hw;obtain rfl:u=.slice vm vn vc:=by simpa using hu.symm
    exact⟨h1,h2,h3,h4⟩
   refine cQ (p:=⟨p,0,none⟩) (u:=.agg #[.int .i64 (Ty.aN R tag).1,.slice vm vn vc]) (fun w'=>(w'.setCell ⟨p,0,none⟩ (.int .i64 (Ty.aN R tag).1)).setCell ⟨p,1,none⟩ (.slice vm vn vc)) (Typed W0 p (Ty.aN R tag) (.slice vm vn vc)) rfl rfl rfl rfl rfl (fun w' hw=> ?_) (fun w' hw=>Typed.set hw.1 hw.2.1 hw.2.2.1 hw.2.2.2) (fun w' h=>ah.of h.1) ?_
   ·have d1:=ae hw.2.2.1;have d2:=ay hw.2.2.1;clear k1 k2 hw;go_simp
   refine sq 1 ?_;refine au fun w1 br=> ?_
   obtain⟨hm1,hp,hbp,hf⟩:=br;have hm1H:=zh hm1;have hp1:=zh hbp;have hf1:=zh hf;have hS1:=zh (hS0.then hm1);have c2:=ae hbp;clear k1 k2 hm1 hbp hf hp hlk hS0;go_wp2_with fail;go_ret;exact⟨by rw[h20.out];rfl,cz hBH.out (by rw[hR];exact hS1.out)⟩
theorem DZ {F:List Nat} {W w:World} {cs:List ai} {a:HA} {c:HC} {k:Nat} {s:HS} (hc:c.Ok) (hI:az c k s) (hk:k≤900) {p tag d:Int} (d0:0≤d) (d1:d≤18446744073709551615) (hh:0≤fM c s p tag d∧fM c s p tag d≤18446744073709551615) (hS:af F W (aB a c s::cs) w):
  Calls Tryz.prog 52 #[.pointer (some ⟨a.hb,0,none⟩),.int .i64 p,.int .i64 tag,.int .u64 d] w fun e w'=>e=.returned (.tuple #[.int .u64 (iU c s p tag d),.int .i64 (gd c s p tag d).1])∧af F W (aB a c (gd c s p tag d).2::cs) w':=by
 have hS1:=(((((((hS.alloc (.cells #[.pointer (some ⟨a.hb,0,none⟩)] 26)).swap.alloc (.cells #[.int .i64 p] 3)).swap.alloc (.cells #[.int .i64 tag] 3)).swap.alloc (.cells #[.int .u64 d] 31)).swap.alloc (.cells #[.int .i64 p,.int .i64 1,.int .u64 0,.int .u64 (u64 tag),.int .i64 0] 100)).alloc (.cells #[.pointer (some ⟨w.heap.size+1+1+1+1,0,none⟩)] 102)).out 1 rfl);have hS1:=hS1.out 2 rfl;simp only[size_alloc]at hS1;have hu:0≤u64 tag∧u64 tag≤18446744073709551615:=by unfold u64;omega
 have huq:IntKind.u64.wrap tag=u64 tag:=by rw[IntKind.wrap_u64];rfl
 have hse:(df c s p tag d).evs=s.evs∧(df c s p tag d).miss=s.miss:=by unfold df;split<;>exact⟨rfl,rfl⟩
 have hact:=zh (lD (rs:=(cS c s p tag,df c s p tag d)) (h1:=fM c s p tag d) (g:=99) hI (by omega) hS1 (by omega) (by omega) hu Tryz.call99 (ux p tag) hh hse.1 hse.2 fun hst w' h'=>Gb hc hI (by omega) hst d0 d1 h');have hog:act c s p 1 (fM c s p tag d) (u64 tag) (cS c s p tag,df c s p tag d)=gd c s p tag d:=rfl;rw[hog]at hact;have hO:(gd c s p tag d).1=0→iU c s p tag d=fM c s p tag d:=fun h=>by unfold iU;rw[if_pos h]
 have hO2:(gd c s p tag d).1≠0→iU c s p tag d=0:=fun h=>by unfold iU;rw[if_neg h]
 have hOH:=zh (And.intro hO hO2);generalize gd c s p tag d=res at*;generalize iU c s p tag d=V at*;obtain⟨r1,r2⟩:=res;clear hS hS1 hse hog hO hO2 hu;by_cases hr:r1=0
 ·subst hr;go_enter Tryz.func52,Tryz.ntmps52;go_wp2_with fail;refine hact.out.mono ?_;rintro e w1 ⟨rfl,eh2,er2,hS2,he2⟩;obtain rfl:=he2 (by simp);rw[←hOH.out.1 (by simp)]at hS2;have hS2:=zh hS2;have c1:=ae (hS2.out.block 1 rfl);have c2:=ae (hS2.out.block 2 rfl);clear hact he2;go_wp2_with fail;go_ret2;exact⟨rfl,(((((hS2.out.erase 1).erase 1).erase 1).erase 1).erase 1).erase 1⟩
 ·rw[hOH.out.2 hr];have hne:(r1 != 0)=true:=by simpa using hr
  clear hr hOH;go_enter Tryz.func52,Tryz.ntmps52;go_wp2_with fail;refine hact.out.mono ?_;rintro e w1 ⟨rfl,eh2,er2,hS2,_⟩;have hS2:=zh hS2;clear hact;go_wp2_with fail;go_ret2;exact⟨rfl,(((((hS2.out.erase 1).erase 1).erase 1).erase 1).erase 1).erase 1⟩
end Go.Proofs.YtdehaommhbjakaaGreat
