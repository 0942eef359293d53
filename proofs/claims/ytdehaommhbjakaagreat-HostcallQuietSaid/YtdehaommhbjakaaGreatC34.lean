/- Joined contracts. No conditions. -/
import Derived.Test.YtdehaommhbjakaaGreatC33
set_option maxHeartbeats 4000000
set_option maxRecDepth 20000
namespace Go.Proofs.YtdehaommhbjakaaGreat
open RowKit Stg
open Ty (aw)
theorem DR {a:HA} {R:List Ty.Ty} {w:World} {f:List Nat} (hb:w.heap[a.hb]? =some (jX a)) (hr:(Ty.dN 156 a.rt R).on w f) (x:Tb.bP) (ht:Ty.du (Ty.aN R x.tag)):
  Calls Tryz.prog 86 #[.pointer (some ⟨a.hb,0,none⟩),Tb.b8 x] w fun e w'=>e=.returned (.int .i64 (Ty.cC (Ty.aN R x.tag).1 (Ty.aN R x.tag).2))∧Mod [] w w':=by
 have hto:=zh fun w' (hm:Mod [] w w')=>wC (hm.at hb (by simp)) (ai.bj (Ty.dN 156 a.rt R) hr hm (by simp)) x
 obtain⟨h,owner,tag,off,len⟩:=x;simp only[Tb.b8]at hto⊢;have hm0:=zh ((Mod.refl [] w).alloc (.cells #[.int .u64 h,.int .i64 owner,.int .i64 tag,.int .i64 off,.int .i64 len] 106));simp only at hto ht⊢;generalize Ty.aN R tag=T at*;obtain⟨tl,tf⟩:=T;have hbd:=ht.bounds;have he:Ty.bS tl tf=0:=ht;simp only at hto hbd⊢;have hsz:=zh fun v w' (hv:aw w' v tf)=>(show Calls Tryz.prog _ _ _ (fun e w''=>e=.returned (.tuple #[.int .i64 (Ty.cC tl tf),.int .i64 0])∧Mod [] w' w'') by
  have:=Ty.xY tl v tf w' hv (by omega) (by omega);unfold Ty.oY at this;rw[if_pos he,he]at this;exact this)
 clear hb hr ht he;go_enter Tryz.func86,Tryz.ntmps86;go_wp2_with fail;refine(hto.out _ hm0.out).mono ?_;rintro e w1 ⟨v,rfl,hf,hm1⟩;have hm1H:=zh (hm0.out.ag hm1);have hfH:=zh hf;clear hm1 hf hto hm0;go_wp2_with fail;refine(hsz.out v _ hfH.out).mono ?_;rintro e w2 ⟨rfl,hm2⟩;have hm2H:=zh (hm1H.out.ag hm2);clear hm2 hsz;go_wp2_with fail;go_ret;exact⟨rfl,hm2H.out⟩
theorem pL {a:HA} {R:List Ty.Ty} {w:World} {f:List Nat} (hb:w.heap[a.hb]? =some (jX a)) (hr:(Ty.dN 156 a.rt R).on w f) (x:Tb.bP) (ht:Ty.du (Ty.aN R x.tag)) (off n:Int) (hn:0≤n):
  Calls Tryz.prog 43 #[.pointer (some ⟨a.hb,0,none⟩),Tb.b8 x,.int .i64 off,.int .i64 n] w fun e w'=>e=.returned (.bool (cY off n (Ty.cC (Ty.aN R x.tag).1 (Ty.aN R x.tag).2)))∧Mod [] w w':=by
 have hso:=zh fun w' (hm:Mod [] w w')=>DR (hm.at hb (by simp)) (ai.bj (Ty.dN 156 a.rt R) hr hm (by simp)) x ht
 obtain⟨hs0,hsz⟩:=size_pos ht;obtain⟨h,owner,tag,xo,len⟩:=x;simp only[Tb.b8]at hso hsz hs0⊢;generalize Ty.cC (Ty.aN R tag).1 (Ty.aN R tag).2=size at*;have hm0:=zh ((Mod.refl [] w).alloc (.cells #[.int .u64 h,.int .i64 owner,.int .i64 tag,.int .i64 xo,.int .i64 len] 106));unfold cY;clear hb hr ht;by_cases h1:0≤off
 ·have e1:decide (off≥0)=true:=by simp[h1]
  have e1':decide (0≤off)=true:=by simp[h1]
  by_cases h2:n≤size
  ·have e2:decide (n≤size)=true:=by simp[h2]
   rw[e1',e2];go_enter Tryz.func43,Tryz.ntmps43;go_wp2_with fail;refine(hso.out _ hm0.out).mono ?_;rintro e w1 ⟨rfl,hm1⟩;have hm1H:=zh (hm0.out.ag hm1);clear hm1 hso hm0;go_wp2_with fail;go_ret;exact⟨by simp,hm1H.out⟩
  ·have e2:decide (n≤size)=false:=by simp;omega
   rw[e1',e2];go_enter Tryz.func43,Tryz.ntmps43;go_wp2_with fail;refine(hso.out _ hm0.out).mono ?_;rintro e w1 ⟨rfl,hm1⟩;have hm1H:=zh (hm0.out.ag hm1);clear hm1 hso hm0;go_wp2_with fail;go_ret;exact⟨by simp,hm1H.out⟩
 ·have e1:decide (off≥0)=false:=by simp;omega
  have e1':decide (0≤off)=false:=by simp;omega
  rw[e1'];go_enter Tryz.func43,Tryz.ntmps43;go_wp2_with fail;refine(hso.out _ hm0.out).mono ?_;rintro e w1 ⟨rfl,hm1⟩;have hm1H:=zh (hm0.out.ag hm1);clear hm1 hso hm0;go_wp2_with fail;go_ret;exact⟨by simp,hm1H.out⟩
def nC (s:HS) (p o acc:Int):Tb.bP:=if aV s p o acc=0 then a8 s o else Tb.fB
theorem kI {s:HS} {p o acc:Int} (h:aV s p o acc=0):nC s p o acc=a8 s o:=by unfold nC;rw[if_pos h]
theorem j3 {s:HS} {p o acc:Int} (h:aV s p o acc≠0):Tb.b8 (nC s p o acc)=.agg #[.int .u64 0,.int .i64 0,.int .i64 0,.int .i64 0,.int .i64 0]:=by unfold nC;rw[if_neg h];rfl
theorem EZ {s:HS} {p o acc:Int} (h:Tb.bF s.T o≠0):aV s p o acc=Tb.bF s.T o:=by unfold aV;rw[if_neg h]
theorem Eu {s:HS} {p o acc:Int} (h:Tb.bF s.T o=0):aV s p o acc=Bw.kZ s.L (Tb.aJ o) p (decide ((a8 s o).owner=p)) acc:=by unfold aV;rw[if_pos h]
theorem lr {F:List Nat} {W w:World} {cs:List ai} {a:HA} {c:HC} {k:Nat} {s:HS} (hc:c.Ok) (hI:az c k s) (hk:k≤1000) {u:List Ext} {B:List Int} {fm:Int→Qt.Q} (hS:af F W (gF a c s.R s.T s.L s.evs s.miss s.st u B fm++cs) w)
  (p o acc:Int) (o0:0≤o) (o1:o≤18446744073709551615):
  Calls Tryz.prog 42 #[.pointer (some ⟨a.hb,0,none⟩),.int .i64 p,.int .u64 o,.int .i64 acc] w fun e w'=>e=.returned (.tuple #[Tb.b8 (nC s p o acc),.int .i64 (aV s p o acc)])∧Mod [] w w':=by
 have hm0:=zh ((Mod.refl [] w).alloc (.cells #[.int .u64 0,.int .i64 0,.int .i64 0,.int .i64 0,.int .i64 0] 106));have hr0:=zh (an w (.cells #[.int .u64 0,.int .i64 0,.int .i64 0,.int .i64 0,.int .i64 0] 106));have hb:=hS.block 0 rfl;have hrs:=zh fun w' (hm:Mod [] w w')=>(show Calls Tryz.prog _ #[.pointer (some ⟨a.tb,0,none⟩),.int .u64 o] w' (fun e w''=>e=.returned (Tb.jz s.T o)∧Mod [] w' w'')from by
  obtain⟨_,⟨_,hA,hH⟩,_⟩:=(hS.then hm).part 3 rfl;exact Tb.pM hI.ew hA o o0 o1 hc.n (af.start hH))
 have hac:=zh fun w' (hm:Mod [] w w')=>Bw.Dw (Bw.gD.of ((hS.then hm).part 4 rfl).choose_spec.1) hI.e9 (by have:=hI.jS;omega) (Tb.aJ o) p (decide ((a8 s o).owner=p)) acc
 have hsl:=zh fun w'=>Tb.nj o o0 o1 w'
 have hch:=ae (hm0.out.at hb (by simp));have hbH:=zh hb;by_cases hE:Tb.bF s.T o=0
 ·have hz:=Eu (p:=p) (acc:=acc) hE;have hrv:Tb.jz s.T o=.tuple #[Tb.b8 (a8 s o),.int .i64 0]:=by unfold Tb.jz;rw[hE];rfl
  rw[hrv]at hrs;have hx1:=zh fun(h:aV s p o acc=0)=>kI h
  have hx2:=zh fun(h:aV s p o acc≠0)=>j3 h
  rw[hz]at hx1 hx2⊢;generalize Bw.kZ s.L (Tb.aJ o) p (decide ((a8 s o).owner=p)) acc=E at*;generalize nC s p o acc=Y at*;generalize Tb.aJ o=sl at*;generalize a8 s o=X at*;obtain⟨xh,xo,xt,xf,xl⟩:=X;simp only[Tb.b8]at hrs hac hx2;obtain⟨b,hbb⟩:∃b,decide (xo=p)=b:=⟨_,rfl⟩;rw[hbb]at hac;have hbe:(xo==p)=b:=by rw[←hbb];simp[BEq.beq]
  obtain⟨YV,hYV⟩:∃YV,Tb.b8 Y=YV:=⟨_,rfl⟩;rw[hYV];have hYH:=zh hYV;clear hz hrv hE hS hb hbb hYV;go_enter Tryz.func42,Tryz.ntmps42;go_wp2_with fail;refine(hrs.out _ hm0.out).mono ?_;rintro e w1 ⟨rfl,hm1⟩;have hm1H:=zh ((hm0.out.ag hm1).alloc (.cells #[.int .u64 xh,.int .i64 xo,.int .i64 xt,.int .i64 xf,.int .i64 xl] 106));have hr1:=zh (aI (o:=.cells #[.int .u64 xh,.int .i64 xo,.int .i64 xt,.int .i64 xf,.int .i64 xl] 106) (hm1.at hr0.out (by simp)));have hx0:=zh (an w1 (.cells #[.int .u64 xh,.int .i64 xo,.int .i64 xt,.int .i64 xf,.int .i64 xl] 106));have hlt:=hm1.gt;clear hm1 hrs hm0 hr0 hch;go_wp2_with fail;generalize hW1:w1.alloc (.cells #[.int .u64 xh,.int .i64 xo,.int .i64 xt,.int .i64 xf,.int .i64 xl] 106)=W1 at*;have hb1:=zh (hm1H.out.at hbH.out (by simp));have k1:=GW.cells (S:=[]) hb1.out (by simp);have k2:=GW.cells (S:=[]) hx0.out (by simp);refine aS (by kernel_rfl) (by kernel_rfl) ?_;refine sq 5 ?_;refine b7 85 #[.int .u64 o] (.int .i64 sl) rfl Tryz.call85 rfl rfl (fun w' _=>hsl.out w') ?_;refine sq 6 ?_;refine b7 84 #[.pointer (some ⟨a.lb,0,none⟩),.int .i64 sl,.int .i64 p,.bool b,.int .i64 acc] (.int .i64 E) rfl Tryz.call84 rfl rfl (fun w' hm=>hac.out w' (hm1H.out.ag hm)) ?_;refine sq 1 ?_;refine au fun w2 hm2=> ?_
  have hm2H:=zh (hm1H.out.ag hm2);have hr2:=zh (hm2.at hr1.out (by simp));have hx2':=zh (hm2.at hx0.out (by simp));have c1:=ae hx2'.out;have c2:=ae hr2.out;have f2:=ay hr2.out;clear k1 k2 hm2 hsl hac hm1H hr1 hx0 hb1 hW1;by_cases hE0:E=0
  ·subst hE0;have hy:=hx1.out rfl;have hyv:YV=.agg #[.int .u64 xh,.int .i64 xo,.int .i64 xt,.int .i64 xf,.int .i64 xl]:=by rw[←hYH.out,hy];rfl
   subst hyv;clear hy hx1 hx2;go_wp2_with fail;have hq5:=(aq (o:=4) (v:=.int .i64 xl) (aq (o:=3) (v:=.int .i64 xf) (aq (o:=2) (v:=.int .i64 xt) (aq (o:=1) (v:=.int .i64 xo) (aq (o:=0) (v:=.int .u64 xh) hr2.out)))));have hm5:=(((((hm2H.out.setCell (p:=⟨w.heap.size,0,none⟩) (.inr (Nat.le_refl _)) (.int .u64 xh)).setCell (p:=⟨w.heap.size,1,none⟩) (.inr (Nat.le_refl _)) (.int .i64 xo)).setCell (p:=⟨w.heap.size,2,none⟩) (.inr (Nat.le_refl _)) (.int .i64 xt)).setCell (p:=⟨w.heap.size,3,none⟩) (.inr (Nat.le_refl _)) (.int .i64 xf)).setCell (p:=⟨w.heap.size,4,none⟩) (.inr (Nat.le_refl _)) (.int .i64 xl));refine bodyPost_ret (gX Tryz.results42 rfl rfl hq5 Tryz.underlying106 rfl (by kernel_rfl)) rfl ?_;exact⟨rfl,hm5⟩
  ·have hyv:=hYH.out.symm.trans (hx2.out hE0);have hne:(E != 0)=true:=by simpa using hE0
   subst hyv;clear hx1 hx2 hE0;go_wp2_with fail;have hq5:=(aq (o:=4) (v:=.int .i64 0) (aq (o:=3) (v:=.int .i64 0) (aq (o:=2) (v:=.int .i64 0) (aq (o:=1) (v:=.int .i64 0) (aq (o:=0) (v:=.int .u64 0) hr2.out)))));have hm5:=(((((hm2H.out.setCell (p:=⟨w.heap.size,0,none⟩) (.inr (Nat.le_refl _)) (.int .u64 0)).setCell (p:=⟨w.heap.size,1,none⟩) (.inr (Nat.le_refl _)) (.int .i64 0)).setCell (p:=⟨w.heap.size,2,none⟩) (.inr (Nat.le_refl _)) (.int .i64 0)).setCell (p:=⟨w.heap.size,3,none⟩) (.inr (Nat.le_refl _)) (.int .i64 0)).setCell (p:=⟨w.heap.size,4,none⟩) (.inr (Nat.le_refl _)) (.int .i64 0));refine bodyPost_ret (gX Tryz.results42 rfl rfl hq5 Tryz.underlying106 rfl (by kernel_rfl)) rfl ?_;exact⟨rfl,hm5⟩
 ·have hz:=EZ (p:=p) (acc:=acc) hE;have hrv:=Tb.xJ (x:=s.T) (h:=o) rfl hE;rw[hrv]at hrs;have hx2:=j3 (s:=s) (p:=p) (o:=o) (acc:=acc) (by rw[hz];exact hE);rw[hx2,hz];generalize Tb.bF s.T o=E at*;have he0:(E==0)=false:=by simpa using hE
  have hne:(E != 0)=true:=by simpa using hE
  clear hz hrv hE hS hx2 hac hsl;go_enter Tryz.func42,Tryz.ntmps42;go_wp2_with fail;refine(hrs.out _ hm0.out).mono ?_;rintro e w1 ⟨rfl,hm1⟩;have hm2H:=zh (hm0.out.ag hm1);have hr2:=zh (hm1.at hr0.out (by simp));have hlt:=hm1.gt;have c2:=ae (hm1.at hr0.out (by simp));have f2:=ay (hm1.at hr0.out (by simp));clear hm1 hrs hm0 hr0 hch;go_wp2_with fail;have hq5:=(aq (o:=4) (v:=.int .i64 0) (aq (o:=3) (v:=.int .i64 0) (aq (o:=2) (v:=.int .i64 0) (aq (o:=1) (v:=.int .i64 0) (aq (o:=0) (v:=.int .u64 0) hr2.out)))));have hm5:=(((((hm2H.out.setCell (p:=⟨w.heap.size,0,none⟩) (.inr (Nat.le_refl _)) (.int .u64 0)).setCell (p:=⟨w.heap.size,1,none⟩) (.inr (Nat.le_refl _)) (.int .i64 0)).setCell (p:=⟨w.heap.size,2,none⟩) (.inr (Nat.le_refl _)) (.int .i64 0)).setCell (p:=⟨w.heap.size,3,none⟩) (.inr (Nat.le_refl _)) (.int .i64 0)).setCell (p:=⟨w.heap.size,4,none⟩) (.inr (Nat.le_refl _)) (.int .i64 0));have hq6:=aI (o:=.cells #[.int .u64 0,.int .i64 0,.int .i64 0,.int .i64 0,.int .i64 0] 106) hq5;refine bodyPost_ret (gX Tryz.results42 rfl rfl hq6 Tryz.underlying106 rfl (by kernel_rfl)) rfl ?_;exact⟨rfl,hm5.alloc _⟩
end Go.Proofs.YtdehaommhbjakaaGreat
namespace Go.Proofs.YtdehaommhbjakaaGreat
open RowKit Stg
theorem Cp (n:Nat):aR (List.replicate n 0)=List.replicate n (.int .u8 0):=by simp[aR]
theorem Dc {ar:Nat} {size:Int} {A C:List Ext} {B:List Int} {w:World} {f:List Nat} {o l:Nat} (h:(b6 ar size (A++((o:Int),(l:Int))::C) B).on w f):
  Calls Tryz.prog 158 #[.pointer (some ⟨ar,0,none⟩),.agg #[.int .i64 o,.int .i64 l]] w (bD (b6 ar size (A++C) (ca B o (List.replicate l 0))) (.int .i64 0) w f):=by
 obtain⟨hk,⟨hl0,hol,hB⟩,hhas,ab,g,cap,⟨hc1,hc2⟩,hH⟩:=b6.view h (o:=o) (l:=l) (by simp);have hfree:=hk.u.free hk.s1;have hfl:=hk.u.xH hk.s1;have hul:=hk.ul;have hS0:=zh ((af.start hH).alloc (.cells #[.int .i64 o,.int .i64 l] 104));have hsl:=zh fun w' (h':af f w (aj w.heap.size (.cells #[.int .i64 o,.int .i64 l] 104 (0,0))::fe ar ab (.slice (some ⟨g,0,none⟩) B.length cap) (bK size (A++((o:Int),(l:Int))::C)) (A++((o:Int),(l:Int))::C) B) w')=>
  mR (h'.block 1 rfl) (h'.part 2 rfl).choose_spec.1 o l hhas hl0 hol hc1 hB hc2
 generalize hfr:bK size (A++((o:Int),(l:Int))::C)=fr at*;generalize hus:A++((o:Int),(l:Int))::C=used at*;have haf:=zh fun w' f' (h':(db ab fr used).on w' f')=>Df (xo:=o) (xl:=l) h' hfree.vs (by omega) (by rw[←hus]at hk;exact(hk.u.ok (o,l) (by simp)).1) (fun a ha hm=>(hfree.part ha).2.2 (o,l) (by rw[←hus];simp) (by simp;omega) hm) hhas
 have hkH:=zh hk;have hfreeH:=zh hfree;have husH:=zh hus;clear h hH hhas hfree hfr hus hk;go_enter Tryz.func158,Tryz.ntmps158;go_wp2_with fail;refine(hsl.out _ hS0.out).mono ?_;rintro e w1 ⟨rfl,hm1⟩;have hS1:=zh (hS0.out.then hm1);have hrow:=hS1.out.row 3 rfl;have hcl:∀ty,(Builtin.clear_ #[56] ty #[.slice (some ⟨g,o,none⟩) l (cap-o)]).run Tryz.prog w1=.ok (.tuple #[]) (w1.setCells g o (List.replicate l (.int .u8 0))):=fun ty=>
  Lib.run_clear_slice w1 56 5 ty (.int .u8 0) Tryz.underlying56 Tryz.zeroValue5 rfl rfl g o l (cap-o) hl0 (fun j hj=>(fg hrow (by omega)).1) (fun j hj=>(fg hrow (by omega)).2)
 have hS2:=dU 3 hS1.out rfl (o:=o) (b:=List.replicate l 0) (by simp;omega);rw[Cp]at hS2;have hS2:=zh hS2;clear hm1 hS0 hsl hrow;go_wp2_with fail;clear hcl hS1;generalize w1.setCells g o (List.replicate l (.int .u8 0))=W at*;obtain⟨fa,ha,hput,hne⟩:=hS2.out.mD 2 rfl;have hputH:=zh hput;have haH:=zh ha;have k1:=GW.cells (S:=fa) (hS2.out.block 0 rfl) (hne 0 _ _ rfl);have k2:=GW.cells (S:=fa) (hS2.out.block 1 rfl) (hne 1 _ _ rfl);clear hput ha hne;refine bY (fun w'=>∃x:GW fa W,w'=x.1) (fun w'=>Mod [] W w') (by kernel_rfl) (by kernel_rfl) (fun _ h=>ah.of (h.mono (by simp))) (Mod.refl _ _).drew ?_;refine sq 5 ?_;refine dL 181 #[.pointer (some ⟨ab,0,none⟩),.agg #[.int .i64 o,.int .i64 l]] (.int .i64 0) (fun w'=>Mod fa W w'∧∃fr' f',zw fr fr' (o,l)∧(db ab fr' (used.filter fun e=>decide (e.1≠(o:Int)))).on w' f'∧∀x∈f',x∈fa∨W.heap.size≤x) rfl Tryz.call181 rfl rfl (fun w' hm=> ?_) (fun w' h=>ah.of h.1) ?_
 ·refine(haf.out w' fa (ai.bj (db ab fr used) haH.out hm (by simp))).mono ?_;rintro e w'' ⟨fr',hmore,f',he,q1,q2,q3⟩;refine⟨he,(hm.mono (by simp)).trans q2,fr',f',hmore,q1,fun x hx=>(q3 x hx).imp id fun h=>Nat.le_trans hm.size h⟩
 refine sq 1 ?_;refine au fun w3 cM=> ?_
 obtain⟨hm3,fr',f',hmore,q1,q2⟩:=cM;have hS3:=(hputH.out w3 f' (db ab fr' (used.filter fun e=>decide (e.1≠(o:Int)))) q1 hm3 q2).erase 0;have hcut:(used.filter fun e=>decide (e.1≠(o:Int)))=A++C:=by
  have:=husH.out;rw[←this];exact FM (x:=((o:Int),(l:Int))) (size:=size) (by rw[this];exact hkH.out.u)
 have hdis:=qi (A:=A) (C:=C) (e:=((o:Int),(l:Int))) (size:=size) (by rw[husH.out];exact hkH.out.u);have hfr':bK size (A++C)=fr':=oG (dm.free (fr:=fr) (e:=((o:Int),(l:Int))) (by rw[husH.out];exact hfreeH.out) (by rw[husH.out];exact hkH.out.u) hmore.1 hmore.2.1);obtain⟨f6,p1,p2,p3⟩:=hS3.done;clear k1 k2;go_wp2_with fail;go_ret;have hov:=cN (l:=B) (b:=List.replicate l 0) (off:=o) (by simp;omega);refine⟨f6,rfl,⟨⟨hkH.out.s1,hdis.1,by have:=congrArg List.length husH.out;simp at this⊢;omega,by rw[hov];exact hkH.out.len,iD hkH.out.byte fun x hx=>by rw[List.eq_of_mem_replicate hx];omega⟩,ab,.slice (some ⟨g,0,none⟩) B.length cap,?_⟩,p2,p3⟩;rw[hfr', ←hcut];unfold fe;rw[hov];exact p1
end Go.Proofs.YtdehaommhbjakaaGreat
namespace Go.Proofs.YtdehaommhbjakaaGreat
open RowKit Stg
section
variable {b:Nat} {l:Qt.Q} {f:Int→Qt.Q} {w:World} {fp:List Nat} (h:(jm b l f).on w fp)
include h
theorem uu {fn:FuncId} {args:Array Value} {v:Value} {f':Int→Qt.Q} (hc:∀mo,Qt.jj w b mo l f→Calls Tryz.prog fn args w (Qt.Changed v b mo l f' w)):Calls Tryz.prog fn args w (bD (jm b l f') v w fp):=by
 obtain⟨mo,hM,rfl⟩:=h;refine(hc mo hM).mono ?_;rintro e w' ⟨mo',he,hm,hM',hn⟩;exact⟨b::mo'.toList,he,⟨mo',hM',rfl⟩,hm,fun x hx=>by
  rcases List.mem_cons.1 hx with rfl|hx
  ·exact .inl (by simp)
  ·rw[Option.mem_toList]at hx;exact(hn x hx).imp (fun h=>by simp[h]) id⟩
theorem xr (p:Int) (q:Qt.Q):Calls Tryz.prog 103 #[.pointer (some ⟨b,0,none⟩),.int .i64 p,.agg #[.int .i64 q.b,.int .i64 q.o,.int .i64 q.r]] w fun e w'=>e=.returned (.int .i64 (Qt.cj l (f p) q))∧Mod [] w w':=by
 obtain⟨mo,hM,rfl⟩:=h;exact Qt.sO p q l b mo f w hM
theorem FU (p:Int):Calls Tryz.prog 22 #[.pointer (some ⟨b,0,none⟩),.int .i64 p] w fun e w'=>e=.returned (.agg #[.int .i64 (f p).b,.int .i64 (f p).o,.int .i64 (f p).r])∧Mod [] w w':=by
 obtain⟨mo,hM,rfl⟩:=h;exact Qt.yU p l b mo f w hM
theorem qq (p:Int) (q:Qt.Q) (hf:Qt.cj l (f p) q=0):Calls Tryz.prog 106 #[.pointer (some ⟨b,0,none⟩),.int .i64 p,.agg #[.int .i64 q.b,.int .i64 q.o,.int .i64 q.r]] w (bD (jm b l (Qt.fS f p ((f p).add q))) (.int .i64 0) w fp):=
 uu h fun mo hM=>Qt.FQ p q l b mo f w hM hf
theorem yN (p:Int) (q:Qt.Q) (hf:Qt.cj l (f p) q≠0):Calls Tryz.prog 106 #[.pointer (some ⟨b,0,none⟩),.int .i64 p,.agg #[.int .i64 q.b,.int .i64 q.o,.int .i64 q.r]] w fun e w'=>e=.returned (.int .i64 (Qt.cj l (f p) q))∧Mod [] w w':=by
 obtain⟨mo,hM,rfl⟩:=h;exact Qt.Gu p q l b mo f w hM hf
theorem tt (p:Int) (q:Qt.Q) (hf:Qt.kp (f p) q=0):Calls Tryz.prog 109 #[.pointer (some ⟨b,0,none⟩),.int .i64 p,.agg #[.int .i64 q.b,.int .i64 q.o,.int .i64 q.r]] w (bD (jm b l (Qt.fS f p ((f p).sub q))) (.int .i64 0) w fp):=
 uu h fun mo hM=>Qt.Gd p q l b mo f w hM hf
end
theorem jg {F:List Nat} {W w:World} {cs:List ai} {a:HA} {c:HC} {s':HS} {u:List Ext} {B:List Int} {fm:Int→Qt.Q} (hu:u=bA c s') (hfm:∀p,fm p=aF c s' p) (hB:cd c.size (ct c s') B)
  (h:af F W (gF a c s'.R s'.T s'.L s'.evs s'.miss s'.st u B fm++cs) w):af F W (aB a c s'::cs) w:=by
 subst hu;obtain rfl:fm=aF c s':=funext hfm;exact cz hB h
theorem sub_zero {x q:Qt.Q} (h1:0≤q.b∧q.b≤x.b) (h2:0≤q.o∧q.o≤x.o) (h3:0≤q.r∧q.r≤x.r):Qt.kp x q=0:=by
 unfold Qt.kp;rw[if_neg];simp only[Qt.gT,Qt.mG,Bool.or_eq_true,decide_eq_true_eq];omega
theorem Dy (x y:Qt.Q):(x.add y).sub y=x:=by
 unfold Qt.Q.add Qt.Q.sub;obtain⟨a,b,c⟩:=x;simp only[Qt.Q.mk.injEq];omega
theorem EL {c:HC} {k:Nat} {s s':HS} {x:Ob} {p:Int} (hg:o9 c k s s' x p) (q:Int):Qt.fS (aF c s) p ((aF c s p).sub (wq x.1.2)) q=aF c s' q:=by
 unfold Qt.fS;by_cases e:q=p
 ·subst e;rw[if_pos rfl,hg.has q,if_pos rfl,Dy]
 ·rw[if_neg e,hg.has q,if_neg e]
theorem D6 {c:HC} {k:Nat} {s s':HS} {x:Ob} {p:Int} (hg:tU c k s s' x p) (q:Int):Qt.fS (aF c s) p ((aF c s p).add (wq x.1.2)) q=aF c s' q:=by
 unfold Qt.fS;rw[hg.has q];by_cases e:q=p
 ·rw[if_pos e,if_pos e,e]
 ·rw[if_neg e,if_neg e]
theorem xC {c:HC} (hc:c.Ok) {k:Nat} {s s':HS} {x:Ob} {p:Int} (hg:o9 c k s s' x p) (hx:0≤x.1.2):Qt.kp (aF c s p) (wq x.1.2)=0:=by
 have hpos:=az.pos hc hg.inv p;rw[hg.has p,if_pos rfl];unfold Qt.Q.pos at hpos;refine sub_zero ?_ ?_ ?_<;>simp only[wq,Qt.Q.add]<;>omega
theorem CG {c:HC} {k:Nat} {s s':HS} {x:Ob} {p:Int} {B:List Int} (hI:az c k s) (hg:o9 c k s s' x p) (hB:cd c.size (ct c s) B):cd c.size (ct c s') (ca B x.1.1.toNat (List.replicate x.1.2.toNat 0)):=by
 obtain⟨A,C,g1,g2⟩:=hg.ct;have hu:=hI.eA;rw[←ft,g1]at hu;rw[g1]at hB;rw[g2];exact hB.free hu
theorem CZ {c:HC} {k:Nat} {s s':HS} {x:Ob} {p:Int} (hg:o9 c k s s' x p):∃A C,bA c s=A++x.1::C∧bA c s'=A++C:=by
 obtain⟨A,C,g1,g2⟩:=hg.ct;rw[←ft, ←ft,g1,g2];exact⟨A.map (·.1),C.map (·.1),by simp,by simp⟩
theorem sg (x:Tb.bP) (w:World):Calls Tryz.prog 110 #[Tb.b8 x] w fun e w'=>e=.returned (.agg #[.int .i64 x.len,.int .i64 1,.int .i64 0])∧Mod [] w w':=by
 obtain⟨h,owner,tag,off,len⟩:=x;simp only[Tb.b8];have hm0:=zh (((Mod.refl [] w).alloc (.cells #[.int .u64 h,.int .i64 owner,.int .i64 tag,.int .i64 off,.int .i64 len] 106)).alloc (.cells #[.int .i64 len,.int .i64 1,.int .i64 0] 45));have hy0:=an (w.alloc (.cells #[.int .u64 h,.int .i64 owner,.int .i64 tag,.int .i64 off,.int .i64 len] 106)) (.cells #[.int .i64 len,.int .i64 1,.int .i64 0] 45);rw[show(w.alloc (.cells #[.int .u64 h,.int .i64 owner,.int .i64 tag,.int .i64 off,.int .i64 len] 106)).heap.size=w.heap.size+1 by simp]at hy0;have hy0:=zh hy0;go_enter Tryz.func110,Tryz.ntmps110;go_wp2_with fail;refine bodyPost_ret (results_cell_row Tryz.results110 _ _ (w.heap.size+1) 45 _ _ _ rfl hy0.out Tryz.underlying45 rfl (by kernel_rfl)) rfl ?_;exact⟨rfl,hm0.out⟩
theorem Fo {F:List Nat} {W w:World} {cs:List ai} {a:HA} {c:HC} {R:List Ty.Ty} {T:Tb.TS} {L:List Bw.ak} {evs:List Ev} {miss:List Int} {st:Int→Int} {A C:List Ext} {B:List Int} {fm:Int→Qt.Q} {x:Tb.bP} {o l:Nat} (ho:x.off=o) (hl:x.len=l)
  (hS:af F W (gF a c R T L evs miss st (A++((o:Int),(l:Int))::C) B fm++cs) w) (hc:c.Ok) (hT:Tb.eX c.n c.first T) (h0:0≤x.h) (h1:x.h≤18446744073709551615):
  Calls Tryz.prog 111 #[.pointer (some ⟨a.hb,0,none⟩),Tb.b8 x] w fun e w'=>e=.returned (.tuple #[])∧af F W (gF a c R (Tb.gP T x.h) L evs miss st (A++C) (ca B o (List.replicate l 0)) fm++cs) w':=by
 obtain⟨h,owner,tag,off,len⟩:=x;simp only at ho hl h0 h1;subst ho hl;simp only[Tb.b8];have hS0:=zh (hS.alloc (.cells #[.int .u64 h,.int .i64 owner,.int .i64 tag,.int .i64 o,.int .i64 l] 106));have hTH:=zh hT;clear hS hT;go_enter Tryz.func111,Tryz.ntmps111;go_wp2_with fail;generalize w.alloc (.cells #[.int .u64 h,.int .i64 owner,.int .i64 tag,.int .i64 o,.int .i64 l] 106)=W0 at*;generalize w.heap.size=bx at*;obtain⟨fa,hl,hput,hne⟩:=hS0.out.dJ 2 rfl;have k1:=GW.cells (S:=fa) (hS0.out.block 1 rfl) (hne 1 _ _ rfl);have k2:=GW.cells (S:=fa) (hS0.out.block 0 rfl) (hne 0 _ _ rfl);have hlH:=zh fun w' hm=>Dc (hl w' hm)
 have hputH:=zh hput;clear hl hput hne hS0;refine bV fa (by kernel_rfl) (by kernel_rfl) ?_;refine sq 6 ?_;refine cE 158 #[.pointer (some ⟨a.ar,0,none⟩),.agg #[.int .i64 o,.int .i64 l]] (.int .i64 0) rfl Tryz.call158 rfl rfl hlH.out ?_;simp only[Act.put,sA,sB,sC];refine au fun w1 br=> ?_
 have hS1:=zh (hputH.out w1 _ br);clear k1 k2 hlH hputH br;go_wp2_with fail;obtain⟨fb,hl,hput,hne⟩:=hS1.out.dJ 4 rfl;have k1:=GW.cells (S:=fb) (hS1.out.block 1 rfl) (hne 1 _ _ rfl);have k2:=GW.cells (S:=fb) (hS1.out.block 0 rfl) (hne 0 _ _ rfl);have hlH:=zh fun w' hm=>Tb.Ee hTH.out hc.n h h0 h1 (hl w' hm)
 have hputH:=zh hput;clear hl hput hne hS1;refine bV fb (by kernel_rfl) (by kernel_rfl) ?_;refine sq 6 ?_;refine cE 159 #[.pointer (some ⟨a.tb,0,none⟩),.int .u64 h] (.int .i64 (Tb.bF T h)) rfl Tryz.call159 rfl rfl hlH.out ?_;simp only[Act.put,sA,sB,sC];refine au fun w2 aP=> ?_
 have hS2:=zh (hputH.out w2 _ aP);clear k1 k2 hlH hputH aP;go_wp2_with fail;go_end0;refine⟨rfl,?_⟩;exact hS2.out.erase 0
end Go.Proofs.YtdehaommhbjakaaGreat
namespace Go.Proofs.YtdehaommhbjakaaGreat
open RowKit Stg
section
variable {P:Program} {ops:Array Oper} {I:World→Prop} {Out:Prop} {Q:Act→World→Prop}
theorem CO {Out:Prop} (f:FuncId) (args:Array Value) (V:Value→Prop) (C':Value→World→Prop) {o:Oper} {C:World→Prop} {a:Act} {K:(World→Prop)→Act→Prop} {asz:Array Operand} {ts:Array TypeId}
  (hop:o.op=.call ⟨.value (.func f),asz,ts⟩) (hcall:∀(args:Array Value) w,(callFunc f args).run P w=.ok (.enter f args) w) (hargs:(asz.toList.map a.eval).toArray=args) (hV:∃v,V v)
  (hc:∀w,C w→Calls P f args w fun e w'=>∃v,e=.returned v∧V v∧C' v w') (hI:∀v w,C' v w→I w)
  (h:∀v,V v→K (C' v) (a.put o.dst v)):∃(V:Value→Prop) (R:Value→World→Prop),(∃v,V v)∧(∀w,C w→gives P o a w Out R)∧(∀v w,R v w→V v∧I w)∧∀v,V v→K (R v) (a.put o.dst v):=by
 refine⟨V,fun u w=>V u∧C' u w,hV,fun w hC=> ?_,fun u w h1=>⟨h1.1,hI u w h1.2⟩,fun u hu=> ?_⟩
 ·unfold gives;rw[nw hop rfl hcall w,hargs];exact(hc w hC).mono fun e w' ⟨v,h1,h2,h3⟩=>by subst h1;exact⟨h2,h3⟩
 ·have e:(fun w=>V u∧C' u w)=C' u:=by
   funext w;simp[hu]
  have h':=h u hu;rw[←e]at h';exact h'
theorem wH {F:List Nat} {W:World} (D:Nat→List ai) (b:Nat):(fun w'=>∃b',Value.pointer (some ⟨b,0,none⟩)=.pointer (some ⟨b',0,none⟩)∧af F W (D b') w')=fun w'=>af F W (D b) w':=by
 funext w';apply propext;constructor
 ·rintro⟨b',e,h⟩;cases e;exact h
 ·exact fun h=>⟨b,rfl,h⟩
theorem mS {F:List Nat} {W:World} {cs:List ai} (D:Nat→List ai) (f:FuncId) (args:Array Value) {o:Oper} {rest:List Oper} {a:Act} {asx:Array Operand} {ts:Array TypeId}
  (hop:o.op=.call ⟨.value (.func f),asx,ts⟩) (hcall:∀(args:Array Value) w,(callFunc f args).run P w=.ok (.enter f args) w)
  (hw:Region.wanted o (yielded ops a.tmps)=true) (hargs:(asx.toList.map a.eval).toArray=args) (hI:∀cs w,af F W cs w→I w)
  (hc:∀w,af F W cs w→Calls P f args w fun e w'=>∃b,e=.returned (.pointer (some ⟨b,0,none⟩))∧af F W (D b) w')
  (h:∀b,aH P ops I Out Q rest (fun w'=>af F W (D b) w') (a.put o.dst (.pointer (some ⟨b,0,none⟩)))):
  aH P ops I Out Q (o::rest) (fun w'=>af F W cs w') a:=by
 refine cD f args (fun v=>∃b,v=.pointer (some ⟨b,0,none⟩)) (fun v w'=>∃b,v=.pointer (some ⟨b,0,none⟩)∧af F W (D b) w') hop hcall hw hargs ⟨_,0,rfl⟩ (fun w hC=>(hc w hC).mono fun e w' ⟨b,he,hS⟩=>⟨_,he,⟨b,rfl⟩,b,rfl,hS⟩) (fun _ w ⟨_,_,h⟩=>hI _ w h) (fun v hv=> ?_);obtain⟨b,rfl⟩:=hv;rw[wH D b];exact h b
theorem sV {F:List Nat} {W:World} {cs:List ai} (D:Nat→List ai) (f:FuncId) (args:Array Value) {o:Oper} {a:Act} {K:(World→Prop)→Act→Prop} {asx:Array Operand} {ts:Array TypeId}
  (hop:o.op=.call ⟨.value (.func f),asx,ts⟩) (hcall:∀(args:Array Value) w,(callFunc f args).run P w=.ok (.enter f args) w) (hargs:(asx.toList.map a.eval).toArray=args) (hI:∀cs w,af F W cs w→I w)
  (hc:∀w,af F W cs w→Calls P f args w fun e w'=>∃b,e=.returned (.pointer (some ⟨b,0,none⟩))∧af F W (D b) w')
  (h:∀b,K (fun w'=>af F W (D b) w') (a.put o.dst (.pointer (some ⟨b,0,none⟩)))):
  ∃(V:Value→Prop) (R:Value→World→Prop),(∃v,V v)∧(∀w,af F W cs w→gives P o a w Out R)∧(∀v w,R v w→V v∧I w)∧∀v,V v→K (R v) (a.put o.dst v):=by
 refine CO f args (fun v=>∃b,v=.pointer (some ⟨b,0,none⟩)) (fun v w'=>∃b,v=.pointer (some ⟨b,0,none⟩)∧af F W (D b) w') hop hcall hargs ⟨_,0,rfl⟩ (fun w hC=>(hc w hC).mono fun e w' ⟨b,he,hS⟩=>⟨_,he,⟨b,rfl⟩,b,rfl,hS⟩) (fun _ w ⟨_,_,h⟩=>hI _ w h) (fun v hv=> ?_);obtain⟨b,rfl⟩:=hv;rw[wH D b];exact h b
theorem lA {F:List Nat} {W:World} {cs:List ai} (v:Nat→Value) (ob:Obj) (CC:Nat→ai) {o:Oper} {rest:List Oper} {a:Act}
  (hv:∀s s',v s=v s'→s=s') (hw:Region.wanted o (yielded ops a.tmps)=true) (he:aY o=true) (hI:∀cs w,af F W cs w→I w)
  (hrun:∀w:World,af F W cs w→(execOp a.eval o).run P w=.ok (.value (v w.heap.size)) (w.alloc ob)) (hC:∀(w:World) b,w.heap[b]? =some ob→(CC b).on w [b])
  (h:∀b,aH P ops I Out Q rest (fun w'=>af F W (CC b::cs) w') (a.put o.dst (v b))):aH P ops I Out Q (o::rest) (fun w'=>af F W cs w') a:=
 aO v ob (fun b w'=>af F W (CC b::cs) w') hv hw he hrun (fun w hS=>hS.add (f:=[w.heap.size]) ((Mod.refl [] w).alloc ob) (hC _ _ (an w ob)) (by simp)) (fun _ w h=>hI _ w h) h
end
theorem zW {F:List Nat} {W W1 w:World} {cs ds:List ai} (h0:af F W cs W1) (h1:af [] W1 ds w):af F W (ds++cs) w:=by
 obtain⟨hm,fp,hh,hf⟩:=h1;exact af.split (h0.add (c:=ai.all ds) (f:=fp) hm hh fun x hx=>(hf x hx).elim (fun h=>by simp at h) id)
theorem lk {F:List Nat} {W w:World} {cs:List ai} (i:Nat) {b:Nat} {zs:Array Value} {T:TypeId} {fr:Nat×Nat} (h:af F W cs w) (hi:cs[i]? =some (aj b (.cells zs T fr))) (vs:Array Value) (hs:zs.size=vs.size):
  af F W (cs.set i (aj b (.cells vs T fr))) (w.setCells b 0 vs.toList):=by
 obtain⟨f,⟨h1,hf⟩,hk⟩:=h.part i hi;subst hf;exact hk _ _ _ ⟨dK h1 hs,rfl⟩ (Mod.setCells (.inl (by simp)) _ _ _ (Mod.refl _ w)) (fun x hx=>.inl hx)
theorem F3 {P:Program} {c:Code} {Q:Exit→Act→World→Prop} {a:Act} {w:World} (R:Nat→Nat→Nat→Nat→Nat→World→Prop) (FR:Nat→Nat→Nat→Nat→Nat→Act)
  (h:c.wp P (fun e a' w'=>e=.normal∧∃p q r s t,a'=FR p q r s t∧R p q r s t w') a w) (hk:∀p q r s t w',R p q r s t w'→Q .normal (FR p q r s t) w'):c.wp P Q a w:=
 wp_mono h (by rintro e a' w' ⟨rfl,p,q,r,s,t,rfl,h⟩;exact hk p q r s t w' h)
end Go.Proofs.YtdehaommhbjakaaGreat
