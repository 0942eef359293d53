/- Joined contracts. No conditions. -/
import Derived.Test.YtdehaommhbjakaaGreatC24
set_option maxHeartbeats 8000000
set_option maxRecDepth 20000
namespace Go.Proofs.YtdehaommhbjakaaGreat
open RowKit Stg
open Ty (aw fF ax eL iR fD mQ fW)
theorem oy:(Tryz.prog.info? 104).map (fun i=>(i.zero,i.size,i.bytes))=some (some (.agg #[.int .i64 0,.int .i64 0]),2,16):=by kernel_rfl
theorem vO (v:Value) (fs:List Ext) (hl:fs.length≤1000000) (w:World) (h:aw w v fs):
  Calls Tryz.prog 169 #[v] w fun e w'=>∃v',e=.returned v'∧w'.ownsRow w.heap.size 104 2 v' fs.length (ax fs)∧Mod [] w w':=by
 obtain⟨i0,hi0,hz0,hz1,hz2⟩:=info_parts oy;rcases h with⟨rfl,rfl⟩|⟨sb,so,cap,rfl,g2,g3,g4⟩
 ·have hnil:=fun w=>Lib.run_eql_slice_nil (P:=Tryz.prog) w 120 104 none 0 0 0 0 Tryz.underlying120
  go_enter Tryz.func169,Tryz.ntmps169;go_wp2_with fail;go_ret;exact⟨_,rfl,World.ownsRow_nil _ _ _ _,Mod.refl _ _⟩
 ·have hown:(w.alloc (.cells #[] 104 (0,0))).ownsRow w.heap.size 104 2 (.slice (some ⟨w.heap.size,0,none⟩) 0 0) 0 []:=World.ownsRow_made w #[] 0 (Nat.le_refl _) (Nat.zero_le _) rfl;have hmA:=(Mod.refl [] w).alloc (.cells #[] 104 (0,0));have hF:aw (w.alloc (.cells #[] 104 (0,0))) (.slice (some ⟨sb,so,none⟩) fs.length cap) fs:=aw.mod (.inr ⟨sb,so,cap,rfl,g2,g3,g4⟩) hmA;have hcs:=zh (iR hF);clear g4 hF;have h63:0+fs.length≤maxLen:=by unfold maxLen;omega
  have hby:(0+fs.length)*16≤140737488355328:=by omega
  have hfl:(ax fs).length=fs.length*2:=eL fs;have hfl:=zh hfl;have hnil:=fun w=>Lib.run_eql_slice_nil (P:=Tryz.prog) w 120 104 (some ⟨sb,so,none⟩) fs.length cap 0 0 Tryz.underlying120
  go_enter Tryz.func169,Tryz.ntmps169;go_wp2_with (at_builtin;refine dO _ rfl _ _ 120 rfl 104 i0 (.agg #[.int .i64 0,.int .i64 0]) 2 16 Tryz.underlying120 hi0 hz0 hz1 hz2 rfl (by decide) (.slice (some ⟨w.heap.size,0,none⟩) 0 0) 0 [] rfl (aE hown (Nat.zero_le _)) ⟨sb,so,none⟩ fs.length cap (ax fs) rfl hfl.out hcs.out (fD fs) h63 hby ?_;intro v' w1 hown1 hgrow hfr;simp only[Nat.zero_add,List.nil_append]at hown1;have hown1:=zh hown1;have hgrow:=zh hgrow;have hfr:=zh hfr);go_ret;refine⟨_,rfl,cy hown1.out fun g hg=> ?_,hmA.grown hgrow.out fun k hk=>.inr ?_⟩
  ·rcases hfr.out g hg with h|h
   ·have h':some w.heap.size=some g:=h;have:=Option.some.inj h';omega
   ·simp at h;omega
  ·have hk':some w.heap.size=some k:=hk;have:=Option.some.inj hk';omega
theorem wL {w:World} {s:List Ext} {sb so cap:Nat} (h:aw w (.slice (some ⟨sb,so,none⟩) s.length cap) s) {i:Nat} (hi:i≤s.length):aw w (.slice (some ⟨sb,so,none⟩) i cap) (s.take i):=by
 rcases h with⟨h,_⟩|⟨sb',so',cap',h,h2,h3,h4⟩
 ·simp at h
 ·simp at h;obtain⟨⟨rfl,rfl⟩,rfl⟩:=h;refine .inr ⟨sb,so,cap,by simp[Nat.min_eq_left hi],h2,by simp;omega,fun j hj=> ?_⟩;have hj':j<s.length:=by simp at hj;omega
  simp only[List.getElem_take];exact h4 j hj'
theorem od {w:World} {s:List Ext} {sb so cap:Nat} (h:aw w (.slice (some ⟨sb,so,none⟩) s.length cap) s) {i:Nat} (hi:i<s.length) (c:Nat):aw w (.slice (some ⟨sb,so+i*2,none⟩) (s.length-i) c) (s.drop i):=by
 rcases h with⟨h,_⟩|⟨sb',so',cap',h,h2,h3,h4⟩
 ·simp at h
 ·simp at h;obtain⟨⟨rfl,rfl⟩,rfl⟩:=h;refine .inr ⟨sb,so+i*2,c,by simp,h2,by simp;omega,fun j hj=> ?_⟩;have hj':i+j<s.length:=by simp at hj;omega
  simp only[List.getElem_drop];have:=h4 (i+j) hj';rw[show so+(i+j)*2=so+i*2+j*2 by omega]at this;exact this
theorem cx {w:World} {v:Value} {n:Nat} {xs:List Value} {b sz:Nat} {e:TypeId} (h:w.ownsRow b e sz v n xs):∃a m c,v=.slice a m c:=by
 rcases dr h with⟨rfl,_⟩|⟨_,_,rfl,_⟩<;>exact⟨_,_,_,rfl⟩
theorem vB {A C:List Ext} {a:Ext} (h:A.length<(A++a::C).length):(A++a::C)[A.length]'h=a:=by simp
def gS (a x:Ext):List Ext:=if a.1<x.1 then [(a.1,x.1-a.1)]else []
def iu (a x:Ext):List Ext:=if x.1+x.2<a.1+a.2 then [(x.1+x.2,a.1+a.2-(x.1+x.2))]else []
def F8 (w:World) (A C:List Ext) (a x:Ext) (e:Ending) (w':World):Prop:=
 ∃u,e=.returned (.tuple #[u,.int .i64 0])∧w'.ownsRow w.heap.size 104 2 u (A++(gS a x++iu a x)++C).length (ax (A++(gS a x++iu a x)++C))∧Mod [] w w'
theorem Ds {w w5 w6 w7:World} {v:Value} {n sz B:Nat} {e:TypeId} {xs:List Value} (hr:w6.ownsRow B e sz v n xs) (hm5:Mod [] w w5) (hm6:Mod [] w5 w6) (hg:w6.grownBy w7 v.ownBlock) (hB:w.heap.size≤B):
  Mod [] w w7∧∀b o,b<B→w5.heap[b]? =some o→w7.heap[b]? =some o:=by
 refine⟨(hm5.ag hm6).grown hg fun k hk=>.inr (Nat.le_trans hB (hr.lt k hk).1),fun b o hb ho=> ?_⟩;have h6:=hm6.at ho (by simp);exact(hg.block b (aL h6) (fun e=>by have:=(hr.lt b e.symm).1;omega)).trans h6
theorem su {b0:Nat} {v:Value} {A C:List Ext} {a x:Ext} {w:World} (hrow:w.ownsRow b0 104 2 v (A++a::C).length (ax (A++a::C))) (hs:VS (A++a::C)) (hl:(A++a::C).length≤999000) (hx:proper x) (h1:a.1≤x.1) (h2:x.1+x.2≤a.1+a.2):
  Calls Tryz.prog 178 #[v,.agg #[.int .i64 x.1,.int .i64 x.2]] w (F8 w A C a x):=by
 have hpos:A.length<(A++a::C).length:=by simp
 have h:=fW hrow rfl;obtain⟨sb,so,cap,rfl,hb,c0,c1⟩:=fF h hpos;have hcap:(A++a::C).length≤cap:=by
  rcases dr hrow with⟨h,_⟩|⟨g,cap',h,_,_,_,hm,_⟩
  ·simp at h
  ·simp at h;obtain⟨_,rfl⟩:=h;omega
 rw[vB]at c0 c1;have hpa:=hs.1 a (by simp);have hgA:=fun b hb=>hs.apart.2.2 b hb a (by simp)
 have hH:=zh h;have hsH:=zh hs;have hgAH:=zh hgA;have hpaH:=zh hpa;have hxH:=zh hx;have h12:=zh (And.intro h1 h2);obtain⟨n,hn⟩:∃n,n=(A++a::C).length:=⟨_,rfl⟩;rw[←hn]at hpos hl hcap;have hnH:=zh hn;rw[←hn]at hH;clear h hrow hs hgA hpa hx h1 h2 hn;obtain⟨xo,xl⟩:=x;go_enter Tryz.func178,Tryz.ntmps178;rw[←hnH.out];go_wp2_with fail;have hbx0:=an w (.cells #[.int .i64 xo,.int .i64 xl] 104);have hm0:=zh ((Mod.refl [] w).alloc (.cells #[.int .i64 xo,.int .i64 xl] 104));generalize hw0:w.alloc (.cells #[.int .i64 xo,.int .i64 xl] 104)=w0 at*;generalize hbx:w.heap.size=bx at*;refine(pV (hH.out.mod hm0.out) hsH.out).mono ?_;rintro e w1 ⟨rfl,hm1⟩;have hbx1:=hm1.at hbx0 (by simp);have kx:=ae hbx1;have hm1H:=zh (hm0.out.ag hm1);have hbx1H:=zh hbx1;clear hm1 hbx0 hbx1 hm0;go_wp2_with fail;refine(nW xo xl w1).mono ?_;rw[(pr (xo,xl)).2 hxH.out];rintro e w2 ⟨rfl,hm2⟩;have hbx2:=hm2.at hbx1H.out (by simp);have kx:=ae hbx2;have hm2H:=zh (hm1H.out.ag hm2);have hbx2H:=zh hbx2;clear hm2 hbx1H hm1H hbx2;go_wp2_with fail;refine(sX (hH.out.mod hm2H.out) hsH.out (by rw[←hnH.out];omega) xo).mono ?_;rintro e w3 ⟨m,rfl,hmn,k1,k2,hm3⟩;obtain rfl:m=A.length:=by
  have g1:A.length<(A++a::C).length:=by rw[←hnH.out];exact hpos
  have hp:=hpaH.out;have h12':=h12.out;have hxx:=hxH.out;unfold proper at hp hxx;simp only at h12' hxx;rcases Nat.lt_trichotomy m A.length with hlt|he|hgt
  ·exfalso;have:=k2 m (by omega) (Nat.le_refl _);rw[List.getElem_append_left hlt]at this;have hg:=hgAH.out A[m] (List.getElem_mem hlt);omega
  ·exact he
  ·exfalso;have:=k1 A.length g1 hgt;rw[vB]at this;omega
 have hbx3:=hm3.at hbx2H.out (by simp);have hm3H:=zh (hm2H.out.ag hm3);have hbx3H:=zh hbx3;have kx:=GW.cells (S:=[]) hbx3 (by simp);have hbw:sb<w.heap.size:=by rw[hbx];exact hb
 have hbwH:=zh hbw;have kc0:=GW.bR (S:=[]) ((Ty.bg hm3H.out hbw (by simp)).trans c0) (hm3H.out.lt hbw) (by simp);have kc1:=GW.bR (S:=[]) ((Ty.bg hm3H.out hbw (by simp)).trans c1) (hm3H.out.lt hbw) (by simp);clear hbw;obtain⟨ao,al⟩:=a;have hbd:=hpaH.out;have hxx:=hxH.out;have h12':=h12.out;unfold proper at hbd hxx;simp only at hbd hxx h12' kc0 kc1;have e1:((A.length:Int)==n)=false:=by simp;omega
 have e2:decide (ao>xo)=false:=by rw[decide_eq_false_iff_not];omega
 have e3:decide (ao+al<xo+xl)=false:=by rw[decide_eq_false_iff_not];omega
 clear k1 k2 hmn hm3 hbx2H hm2H hbx3;go_wp2_with fail;refine aS (by kernel_rfl) (by kernel_rfl) ?_;refine sq 19 ?_;refine b7 168 _ (.int .i64 (ao+al)) rfl Tryz.call168 rfl rfl (fun w' _=>dV ao al (by omega) (by omega) w') ?_;refine sq 1 ?_;refine b7 168 _ (.int .i64 (xo+xl)) rfl Tryz.call168 rfl rfl (fun w' _=>dV xo xl (by omega) (by omega) w') ?_;refine sq 2 ?_;refine au fun w4 hm4=> ?_
 have hm4H:=zh (hm3H.out.ag hm4);have hbx4H:=zh (hm4.at hbx3H.out (by simp));clear kx kc0 kc1 hm4 hbx3H hm3H e1 e2 e3;go_wp2_with fail;have hA:aw w4 (.slice (some ⟨sb,so,none⟩) A.length cap) A:=by
  have hF:=hH.out.mod hm4H.out;rw[hnH.out]at hF;have:=wL hF (i:=A.length) (by simp);simpa using this
 have hlA:A.length≤999000:=by omega
 refine(vO _ A (by omega) w4 hA).mono ?_;rintro e w5 ⟨u5,rfl,hr5,hm5⟩;obtain⟨ua,ul,uc,rfl⟩:=cx hr5;have hbx5:=hm5.at hbx4H.out (by simp);have hm5H:=zh (hm4H.out.ag hm5);have d0:=(Ty.bg hm5H.out hbwH.out (by simp)).trans c0;have d1:=(Ty.bg hm5H.out hbwH.out (by simp)).trans c1;have kx:=ae (aI (o:=.cells #[.int .i64 ao,.int .i64 al] 104) hbx5);have ky:=ae (an w5 (.cells #[.int .i64 ao,.int .i64 al] 104));have hr5H:=zh hr5;have hbx5H:=zh hbx5;have h4s:bx<w4.heap.size:=aL hbx4H.out;have h45:=hm5.size;have hm5L:=zh hm5;clear hm5 hbx4H hm4H hA hr5 hbx5;obtain⟨i0,hi0,hz0,hz1,hz2⟩:=info_parts oy;by_cases hleft:ao<xo
 ·have hm6:=((Mod.refl [] w5).alloc (.cells #[.int .i64 ao,.int .i64 al] 104)).alloc (.cells #[.int .i64 ao,.int .i64 (xo-ao)] 104);have hr6:=aG hr5H.out hm6 (by simp);have hn6:=Ty.tF (w5.alloc (.cells #[.int .i64 ao,.int .i64 al] 104)) (.int .i64 ao) (.int .i64 (xo-ao)) 104;rw[show(w5.alloc (.cells #[.int .i64 ao,.int .i64 al] 104)).heap.size=w5.heap.size+1 by simp]at hn6;have hr6H:=zh hr6;have hn6H:=zh hn6;have hm6H:=zh hm6;clear hr6 hn6 hm6;have h63:A.length+1≤maxLen:=by unfold maxLen;omega
  have hby:(A.length+1)*16≤140737488355328:=by omega
  go_wp2_with (at_builtin;refine dO _ rfl _ _ 120 rfl 104 i0 (.agg #[.int .i64 0,.int .i64 0]) 2 16 Tryz.underlying120 hi0 hz0 hz1 hz2 rfl (by decide) (.slice ua ul uc) A.length (ax A) rfl (aE hr6H.out (Nat.zero_le _)) ⟨w5.heap.size+1,0,none⟩ 1 1 [.int .i64 ao,.int .i64 (xo-ao)] rfl rfl hn6H.out (by simp[Value.oneCell']) h63 hby ?_;intro v7 w7 hown7 hgrow7 hfr7;obtain⟨a7,l7,c7,rfl⟩:=cx hown7;have hown7H:=zh hown7;have hgrow7H:=zh hgrow7;have hfr7H:=zh hfr7;obtain⟨hm7,ho7⟩:=Ds hr6H.out hm5H.out hm6H.out hgrow7 (by omega);have hbx7:=ho7 bx _ h4s hbx5H.out;have hbx7H:=zh hbx7;have hm7H:=zh hm7;have d0:=(Ty.bg hm7 hbwH.out (by simp)).trans c0;have d1:=(Ty.bg hm7 hbwH.out (by simp)).trans c1;have kx:=ae (aI (o:=.cells #[.int .i64 ao,.int .i64 al] 104) hbx7);have ky:=ae (an w7 (.cells #[.int .i64 ao,.int .i64 al] 104));clear hown7 hgrow7 hfr7 hm7 ho7 hbx7);have hP:Hid (w7.ownsRow w4.heap.size 104 2 (.slice a7 l7 c7) (A++[(ao,xo-ao)]).length (ax (A++[(ao,xo-ao)]))):=zh (by
   have h1:=hown7H.out;rw[show(A++[(ao,xo-ao)]).length=A.length+1 by simp,mQ];exact cy h1 fun g hg=>by
    rcases hfr7H.out g hg with h|h
    ·exact(hr6H.out.lt g h).1
    ·have:=hm6H.out.size;omega)
  have hPl:Hid (A++[(ao,xo-ao)]=A++gS (ao,al) (xo,xl)):=zh (by unfold gS;rw[if_pos hleft]);have hw47:w4.heap.size≤w7.heap.size:=Nat.le_trans h45 (Nat.le_trans hm6H.out.size hgrow7H.out.size);have hPn:(A++[(ao,xo-ao)]).length≤999000:=by simp;omega
  generalize A++[(ao,xo-ao)]=P at*;clear hown7H hgrow7H hfr7H hr6H hn6H hm6H h63 hby hm5L hr5H hbx5H hm5H;have hy8:=an w7 (.cells #[.int .i64 ao,.int .i64 al] 104);have hbx8:=aI (o:=.cells #[.int .i64 ao,.int .i64 al] 104) hbx7H.out;have hm8:=hm7H.out.alloc (.cells #[.int .i64 ao,.int .i64 al] 104);have hP8:=aG hP.out ((Mod.refl [] w7).alloc (.cells #[.int .i64 ao,.int .i64 al] 104)) (by simp);have hyP:(Value.slice a7 l7 c7).ownBlock≠some w7.heap.size:=fun e=>by have:=(hP.out.lt _ e).2;omega
  have hbxP:(Value.slice a7 l7 c7).ownBlock≠some bx:=fun e=>by have:=(hP.out.lt _ e).1;omega
  have hw48:w4.heap.size≤(w7.alloc (.cells #[.int .i64 ao,.int .i64 al] 104)).heap.size:=by simp;omega
  clear kx ky d0 d1;generalize w7.heap.size=y at*;generalize w7.alloc (.cells #[.int .i64 ao,.int .i64 al] 104)=w8 at*;have kx:=GW.cells (S:=[]) hbx8 (by simp);have ky:=GW.cells (S:=[]) hy8 (by simp);have hm8H:=zh hm8;have hP8H:=zh hP8;have hbx8H:=zh hbx8;have hy8H:=zh hy8;have hyPH:=zh hyP;have hbxPH:=zh hbxP;clear hm8 hP8 hbx8 hy8 hP hbx7H hm7H hyP hbxP;refine aS (by kernel_rfl) (by kernel_rfl) ?_;refine sq 1 ?_;refine b7 168 _ (.int .i64 (ao+al)) rfl Tryz.call168 rfl rfl (fun w' _=>dV ao al (by omega) (by omega) w') ?_;refine sq 1 ?_;refine b7 168 _ (.int .i64 (xo+xl)) rfl Tryz.call168 rfl rfl (fun w' _=>dV xo xl (by omega) (by omega) w') ?_;refine sq 1 ?_;refine au fun w9 hm9=> ?_
  have hm9H:=zh (hm8H.out.ag hm9);have hbx9H:=zh (hm9.at hbx8H.out (by simp));have hy9H:=zh (hm9.at hy8H.out (by simp));have hP9H:=zh (aG hP8H.out hm9 (by simp));have ww9:w4.heap.size≤w9.heap.size:=Nat.le_trans hw48 hm9.size;clear kx ky hm9 hm8H hbx8H hy8H hP8H;by_cases hright:xo+xl<ao+al
  ·go_wp2_with fail;have qx:=GW.cells (S:=(Value.slice a7 l7 c7).ownBlock.toList) hbx9H.out (by simpa using hbxPH.out);have qy:=GW.cells (S:=(Value.slice a7 l7 c7).ownBlock.toList) hy9H.out (by simpa using hyPH.out);refine bY (fun w'=>∃z:GW (Value.slice a7 l7 c7).ownBlock.toList w9,w'=z.1) (fun w'=>Mod [] w9 w') (by kernel_rfl) (by kernel_rfl) (fun _ h=>ah.of (h.mono (by simp))) (Mod.refl _ _).drew ?_;refine sq 2 ?_;refine dL 168 _ (.int .i64 (xo+xl)) (fun w'=>Mod [] w9 w') rfl Tryz.call168 rfl rfl (fun w' hw=>(dV xo xl (by omega) (by omega) w').mono fun e w'' ⟨he,hm⟩=>⟨he,hw.ag hm⟩) (fun _ hw=>ah.of (hw.mono (by simp))) ?_;refine sq 1 ?_;refine dL 168 _ (.int .i64 (ao+al)) (fun w'=>Mod [] w9 w') rfl Tryz.call168 rfl rfl (fun w' hw=>(dV ao al (by omega) (by omega) w').mono fun e w'' ⟨he,hm⟩=>⟨he,hw.ag hm⟩) (fun _ hw=>ah.of (hw.mono (by simp))) ?_;refine sq 1 ?_;refine dL 168 _ (.int .i64 (xo+xl)) (fun w'=>Mod [] w9 w') rfl Tryz.call168 rfl rfl (fun w' hw=>(dV xo xl (by omega) (by omega) w').mono fun e w'' ⟨he,hm⟩=>⟨he,hw.ag hm⟩) (fun _ hw=>ah.of (hw.mono (by simp))) ?_;refine sq 2 ?_;refine aO (fun s=>.slice (some ⟨s,0,none⟩) 1 1) (.cells #[.int .i64 (xo+xl),.int .i64 (ao+al-(xo+xl))] 104 (0,0)) (fun s w'=>Mod [] w9 w'∧w'.heap[s]? =some (.cells #[.int .i64 (xo+xl),.int .i64 (ao+al-(xo+xl))] 104 (0,0))) (by intro s s' h;simpa using h) rfl rfl (fun w' hw=> ?_) (fun w' hw=>⟨hw.alloc _,an _ _⟩) (fun s w' h=>ah.of (h.1.mono (by simp))) (fun s=> ?_)
   ·kernel_rfl
   simp only[Act.put,sA,sB,sC];refine cP (fun u=>∃g cap,u=.slice (some ⟨g,0,none⟩) (P.length+1) cap) (fun u w'=>Mod (Value.slice a7 l7 c7).ownBlock.toList w9 w'∧w'.ownsRow w4.heap.size 104 2 u (P.length+1) (ax (P++[(xo+xl,ao+al-(xo+xl))]))) rfl rfl ⟨_,0,0,rfl⟩ (fun w' hw=> ?_) (fun u w' h=>ah.of h.1) (fun u hu=> ?_)
   ·obtain⟨g1,g5⟩:=hw;have g2:=aG hP9H.out g1 (by simp);obtain⟨v',w3',hr,r2,r3,r4⟩:=gG (P:=Tryz.prog) w' 120 120 104 i0 (.agg #[.int .i64 0,.int .i64 0]) 2 16 Tryz.underlying120 hi0 hz0 hz1 hz2 rfl (by decide) _ P.length (ax P) (aE g2 (Nat.zero_le _)) ⟨s,0,none⟩ 1 1 [.int .i64 (xo+xl),.int .i64 (ao+al-(xo+xl))] rfl (fun j u hj=>by rw[Ty.eT,Nat.zero_add,ae g5];simpa using hj) (by simp[Value.oneCell']) (by unfold maxLen;omega) (by omega);obtain⟨g',cap',rfl,_,_⟩:=cW r2 (by omega);rw[←mQ P (xo+xl,ao+al-(xo+xl))]at r2;refine⟨_,w3',Ty.eM _ _ 120 rfl rfl rfl hr,⟨g',cap',rfl⟩,(g1.mono (by simp)).grown r3 (fun k hk=>.inl (by simp[hk])),cy r2 fun x hx=> ?_⟩;rcases r4 x hx with h|h
    ·exact(g2.lt x h).1
    ·have:=g1.size;omega
   obtain⟨g,cap2,rfl⟩:=hu;refine sq 1 ?_;refine au fun w10 hw10=> ?_
   obtain⟨hm10,hr10⟩:=hw10;have hmZ:=zh (hm9H.out.then hm10 fun x hx=>.inr (by have:=(hP9H.out.lt x (by simpa using hx)).1;omega));have hrZ:Hid (w10.ownsRow w4.heap.size 104 2 (.slice (some ⟨g,0,none⟩) (P.length+1) cap2) (P++[(xo+xl,ao+al-(xo+xl))]).length (ax (P++[(xo+xl,ao+al-(xo+xl))]))):=zh (by simpa using hr10);have hQ:Hid (P++[(xo+xl,ao+al-(xo+xl))]=A++(gS (ao,al) (xo,xl)++iu (ao,al) (xo,xl))):=zh (by rw[←List.append_assoc, ←hPl.out];unfold iu;rw[if_pos hright]);have hQn:(P++[(xo+xl,ao+al-(xo+xl))]).length≤999001:=by simp;omega
   generalize P++[(xo+xl,ao+al-(xo+xl))]=Q at*;clear qx qy hm10 hr10 hP9H hy9H hbx9H hm9H hPl;have hsrc:=hH.out.mod hmZ.out;rw[hnH.out]at hsrc;have hnC:n=A.length+(C.length+1):=by rw[hnH.out];simp
   have h63:Q.length+C.length≤maxLen:=by unfold maxLen;omega
   have hby:(Q.length+C.length)*16≤140737488355328:=by omega
   have hfC:=zh (eL C);by_cases hce:cap=A.length+1
   ·have hC0:C=[]:=List.eq_nil_of_length_eq_zero (by omega);subst hC0;subst hce;have hn1:n=A.length+1:=by simpa using hnC
    subst hn1;clear hsrc;go_wp2_with (at_builtin;refine dO _ rfl _ _ 120 rfl 104 i0 (.agg #[.int .i64 0,.int .i64 0]) 2 16 Tryz.underlying120 hi0 hz0 hz1 hz2 rfl (by decide) (.slice (some ⟨g,0,none⟩) (P.length+1) cap2) Q.length (ax Q) rfl (aE hrZ.out (Nat.zero_le _)) ⟨sb,so,none⟩ 0 0 [] rfl rfl (by simp) (by simp) (by simpa using h63) (by simpa using hby) ?_;intro vF wF hownF hgrowF hfrF;have hownF:=zh hownF;have hgrowF:=zh hgrowF;have hfrF:=zh hfrF);refine bodyPost_ret (v:=.tuple #[vF,.int .i64 0]) (by simp[results,Tryz.results178,go_sem]) rfl ⟨vF,rfl,?_,hmZ.out.grown hgrowF.out fun k hk=>.inr ?_⟩
    ·have h1:=hownF.out;rw[List.append_nil,Nat.add_zero]at h1;rw[List.append_nil, ←hQ.out];refine cy h1 fun g' hg=> ?_
     rcases hfrF.out g' hg with h|h
     ·have:=(hrZ.out.lt g' h).1;omega
     ·have:=hmZ.out.size;omega
    ·have:=(hrZ.out.lt k hk).1;omega
   ·have hcs:∀j u,(ax C)[j]? =some u→w10.cell? ((⟨sb,so+(A.length+1)*2,none⟩:Addr).add j)=some u:=by
     match C,hsrc with
     | [],_=>intro j u h;simp[ax]at h
     |c::C',hsrc=>
      have hdr:=od (i:=A.length+1) hsrc (by simp) (cap-(A.length+1));have e:(A++(ao,al)::c::C').drop (A.length+1)=c::C':=by simp
      rw[e]at hdr;exact iR hdr
    have hcsH:=zh hcs;have hnm:n-(A.length+1)=C.length:=by omega
    have hnmH:=zh hnm;clear hsrc hcs hnm hnC;go_wp2_with (at_builtin;refine dO _ rfl _ _ 120 rfl 104 i0 (.agg #[.int .i64 0,.int .i64 0]) 2 16 Tryz.underlying120 hi0 hz0 hz1 hz2 rfl (by decide) (.slice (some ⟨g,0,none⟩) (P.length+1) cap2) Q.length (ax Q) rfl (aE hrZ.out (Nat.zero_le _)) ⟨sb,so+(A.length+1)*2,none⟩ (n-(A.length+1)) (cap-(A.length+1)) (ax C) rfl (by rw[hnmH.out];exact hfC.out) hcsH.out (fD C) (by rw[hnmH.out];exact h63) (by rw[hnmH.out];exact hby) ?_;intro vF wF hownF hgrowF hfrF;have hownF:=zh hownF;have hgrowF:=zh hgrowF;have hfrF:=zh hfrF);refine bodyPost_ret (v:=.tuple #[vF,.int .i64 0]) (by simp[results,Tryz.results178,go_sem]) rfl ⟨vF,rfl,?_,hmZ.out.grown hgrowF.out fun k hk=>.inr ?_⟩
    ·have h1:=hownF.out;rw[hnmH.out,show ax Q++ax C=ax (Q++C) by simp[ax]]at h1;rw[←hQ.out,List.length_append];refine cy h1 fun g' hg=> ?_
     rcases hfrF.out g' hg with h|h
     ·have:=(hrZ.out.lt g' h).1;omega
     ·have:=hmZ.out.size;omega
    ·have:=(hrZ.out.lt k hk).1;omega
  ·have hmZ:=hm9H;have hrZ:=hP9H;have hQ:Hid (P=A++(gS (ao,al) (xo,xl)++iu (ao,al) (xo,xl))):=zh (by rw[←List.append_assoc, ←hPl.out];unfold iu;rw[if_neg hright,List.append_nil]);have hQn:P.length≤999001:=by omega
   generalize P=Q at*;clear hP9H hy9H hbx9H hm9H hPl;have hsrc:=hH.out.mod hmZ.out;rw[hnH.out]at hsrc;have hnC:n=A.length+(C.length+1):=by rw[hnH.out];simp
   have h63:Q.length+C.length≤maxLen:=by unfold maxLen;omega
   have hby:(Q.length+C.length)*16≤140737488355328:=by omega
   have hfC:=zh (eL C);by_cases hce:cap=A.length+1
   ·have hC0:C=[]:=List.eq_nil_of_length_eq_zero (by omega);subst hC0;subst hce;have hn1:n=A.length+1:=by simpa using hnC
    subst hn1;clear hsrc;go_wp2_with (at_builtin;refine dO _ rfl _ _ 120 rfl 104 i0 (.agg #[.int .i64 0,.int .i64 0]) 2 16 Tryz.underlying120 hi0 hz0 hz1 hz2 rfl (by decide) (.slice a7 l7 c7) Q.length (ax Q) rfl (aE hrZ.out (Nat.zero_le _)) ⟨sb,so,none⟩ 0 0 [] rfl rfl (by simp) (by simp) (by simpa using h63) (by simpa using hby) ?_;intro vF wF hownF hgrowF hfrF;have hownF:=zh hownF;have hgrowF:=zh hgrowF;have hfrF:=zh hfrF);refine bodyPost_ret (v:=.tuple #[vF,.int .i64 0]) (by simp[results,Tryz.results178,go_sem]) rfl ⟨vF,rfl,?_,hmZ.out.grown hgrowF.out fun k hk=>.inr ?_⟩
    ·have h1:=hownF.out;rw[List.append_nil,Nat.add_zero]at h1;rw[List.append_nil, ←hQ.out];refine cy h1 fun g' hg=> ?_
     rcases hfrF.out g' hg with h|h
     ·have:=(hrZ.out.lt g' h).1;omega
     ·have:=hmZ.out.size;omega
    ·have:=(hrZ.out.lt k hk).1;omega
   ·have hcs:∀j u,(ax C)[j]? =some u→w9.cell? ((⟨sb,so+(A.length+1)*2,none⟩:Addr).add j)=some u:=by
     match C,hsrc with
     | [],_=>intro j u h;simp[ax]at h
     |c::C',hsrc=>
      have hdr:=od (i:=A.length+1) hsrc (by simp) (cap-(A.length+1));have e:(A++(ao,al)::c::C').drop (A.length+1)=c::C':=by simp
      rw[e]at hdr;exact iR hdr
    have hcsH:=zh hcs;have hnm:n-(A.length+1)=C.length:=by omega
    have hnmH:=zh hnm;clear hsrc hcs hnm hnC;go_wp2_with (at_builtin;refine dO _ rfl _ _ 120 rfl 104 i0 (.agg #[.int .i64 0,.int .i64 0]) 2 16 Tryz.underlying120 hi0 hz0 hz1 hz2 rfl (by decide) (.slice a7 l7 c7) Q.length (ax Q) rfl (aE hrZ.out (Nat.zero_le _)) ⟨sb,so+(A.length+1)*2,none⟩ (n-(A.length+1)) (cap-(A.length+1)) (ax C) rfl (by rw[hnmH.out];exact hfC.out) hcsH.out (fD C) (by rw[hnmH.out];exact h63) (by rw[hnmH.out];exact hby) ?_;intro vF wF hownF hgrowF hfrF;have hownF:=zh hownF;have hgrowF:=zh hgrowF;have hfrF:=zh hfrF);refine bodyPost_ret (v:=.tuple #[vF,.int .i64 0]) (by simp[results,Tryz.results178,go_sem]) rfl ⟨vF,rfl,?_,hmZ.out.grown hgrowF.out fun k hk=>.inr ?_⟩
    ·have h1:=hownF.out;rw[hnmH.out,show ax Q++ax C=ax (Q++C) by simp[ax]]at h1;rw[←hQ.out,List.length_append];refine cy h1 fun g' hg=> ?_
     rcases hfrF.out g' hg with h|h
     ·have:=(hrZ.out.lt g' h).1;omega
     ·have:=hmZ.out.size;omega
    ·have:=(hrZ.out.lt k hk).1;omega
 ·have hm7:=hm5H.out.alloc (.cells #[.int .i64 ao,.int .i64 al] 104);have hbx7:=aI (o:=.cells #[.int .i64 ao,.int .i64 al] 104) hbx5H.out;have hP7:=aG hr5H.out ((Mod.refl [] w5).alloc (.cells #[.int .i64 ao,.int .i64 al] 104)) (by simp);have hw47:w4.heap.size≤(w5.alloc (.cells #[.int .i64 ao,.int .i64 al] 104)).heap.size:=by simp;omega
  have d2:=(Ty.bg hm7 hbwH.out (by simp)).trans c0;have d3:=(Ty.bg hm7 hbwH.out (by simp)).trans c1;have hm7H:=zh hm7;have hbx7H:=zh hbx7;have hP:=zh hP7;have hw47H:=zh hw47;have kx7:=ae (aI (o:=.cells #[.int .i64 ao,.int .i64 al] 104) hbx7);have ky7:=ae (an (w5.alloc (.cells #[.int .i64 ao,.int .i64 al] 104)) (.cells #[.int .i64 ao,.int .i64 al] 104));have hPl:Hid (A=A++gS (ao,al) (xo,xl)):=zh (by unfold gS;rw[if_neg hleft,List.append_nil]);clear hm7 hbx7 hP7 hw47;have hsz:w5.heap.size+1=(w5.alloc (.cells #[.int .i64 ao,.int .i64 al] 104)).heap.size:=by simp
  have hszH:=zh hsz;clear hsz;go_wp2_with fail;rw[hszH.out];clear hszH;have hw47:=hw47H.out;have hPn:A.length≤999000:=hlA;obtain⟨P,hPA⟩:∃P,P=A:=⟨_,rfl⟩;rw[←hPA]at hPn;have hP:=zh (show(w5.alloc (.cells #[.int .i64 ao,.int .i64 al] 104)).ownsRow w4.heap.size 104 2 (.slice ua ul uc) P.length (ax P) by rw[hPA];exact hP.out);have hPl:Hid (P=A++gS (ao,al) (xo,xl)):=zh (hPA.trans hPl.out);generalize w5.alloc (.cells #[.int .i64 ao,.int .i64 al] 104)=w7 at*;clear hPA hm5L hr5H hbx5H hm5H hw47H;clear d0 d1 kx ky;have kx:=kx7;have ky:=ky7;have d0:=d2;have d1:=d3;clear kx7 ky7 d2 d3;generalize ua=a7 at*;generalize ul=l7 at*;generalize uc=c7 at*;have hy8:=an w7 (.cells #[.int .i64 ao,.int .i64 al] 104);have hbx8:=aI (o:=.cells #[.int .i64 ao,.int .i64 al] 104) hbx7H.out;have hm8:=hm7H.out.alloc (.cells #[.int .i64 ao,.int .i64 al] 104);have hP8:=aG hP.out ((Mod.refl [] w7).alloc (.cells #[.int .i64 ao,.int .i64 al] 104)) (by simp);have hyP:(Value.slice a7 l7 c7).ownBlock≠some w7.heap.size:=fun e=>by have:=(hP.out.lt _ e).2;omega
  have hbxP:(Value.slice a7 l7 c7).ownBlock≠some bx:=fun e=>by have:=(hP.out.lt _ e).1;omega
  have hw48:w4.heap.size≤(w7.alloc (.cells #[.int .i64 ao,.int .i64 al] 104)).heap.size:=by simp;omega
  clear kx ky d0 d1;generalize w7.heap.size=y at*;generalize w7.alloc (.cells #[.int .i64 ao,.int .i64 al] 104)=w8 at*;have kx:=GW.cells (S:=[]) hbx8 (by simp);have ky:=GW.cells (S:=[]) hy8 (by simp);have hm8H:=zh hm8;have hP8H:=zh hP8;have hbx8H:=zh hbx8;have hy8H:=zh hy8;have hyPH:=zh hyP;have hbxPH:=zh hbxP;clear hm8 hP8 hbx8 hy8 hP hbx7H hm7H hyP hbxP;refine aS (by kernel_rfl) (by kernel_rfl) ?_;refine sq 1 ?_;refine b7 168 _ (.int .i64 (ao+al)) rfl Tryz.call168 rfl rfl (fun w' _=>dV ao al (by omega) (by omega) w') ?_;refine sq 1 ?_;refine b7 168 _ (.int .i64 (xo+xl)) rfl Tryz.call168 rfl rfl (fun w' _=>dV xo xl (by omega) (by omega) w') ?_;refine sq 1 ?_;refine au fun w9 hm9=> ?_
  have hm9H:=zh (hm8H.out.ag hm9);have hbx9H:=zh (hm9.at hbx8H.out (by simp));have hy9H:=zh (hm9.at hy8H.out (by simp));have hP9H:=zh (aG hP8H.out hm9 (by simp));have ww9:w4.heap.size≤w9.heap.size:=Nat.le_trans hw48 hm9.size;clear kx ky hm9 hm8H hbx8H hy8H hP8H;by_cases hright:xo+xl<ao+al
  ·go_wp2_with fail;have qx:=GW.cells (S:=(Value.slice a7 l7 c7).ownBlock.toList) hbx9H.out (by simpa using hbxPH.out);have qy:=GW.cells (S:=(Value.slice a7 l7 c7).ownBlock.toList) hy9H.out (by simpa using hyPH.out);refine bY (fun w'=>∃z:GW (Value.slice a7 l7 c7).ownBlock.toList w9,w'=z.1) (fun w'=>Mod [] w9 w') (by kernel_rfl) (by kernel_rfl) (fun _ h=>ah.of (h.mono (by simp))) (Mod.refl _ _).drew ?_;refine sq 2 ?_;refine dL 168 _ (.int .i64 (xo+xl)) (fun w'=>Mod [] w9 w') rfl Tryz.call168 rfl rfl (fun w' hw=>(dV xo xl (by omega) (by omega) w').mono fun e w'' ⟨he,hm⟩=>⟨he,hw.ag hm⟩) (fun _ hw=>ah.of (hw.mono (by simp))) ?_;refine sq 1 ?_;refine dL 168 _ (.int .i64 (ao+al)) (fun w'=>Mod [] w9 w') rfl Tryz.call168 rfl rfl (fun w' hw=>(dV ao al (by omega) (by omega) w').mono fun e w'' ⟨he,hm⟩=>⟨he,hw.ag hm⟩) (fun _ hw=>ah.of (hw.mono (by simp))) ?_;refine sq 1 ?_;refine dL 168 _ (.int .i64 (xo+xl)) (fun w'=>Mod [] w9 w') rfl Tryz.call168 rfl rfl (fun w' hw=>(dV xo xl (by omega) (by omega) w').mono fun e w'' ⟨he,hm⟩=>⟨he,hw.ag hm⟩) (fun _ hw=>ah.of (hw.mono (by simp))) ?_;refine sq 2 ?_;refine aO (fun s=>.slice (some ⟨s,0,none⟩) 1 1) (.cells #[.int .i64 (xo+xl),.int .i64 (ao+al-(xo+xl))] 104 (0,0)) (fun s w'=>Mod [] w9 w'∧w'.heap[s]? =some (.cells #[.int .i64 (xo+xl),.int .i64 (ao+al-(xo+xl))] 104 (0,0))) (by intro s s' h;simpa using h) rfl rfl (fun w' hw=> ?_) (fun w' hw=>⟨hw.alloc _,an _ _⟩) (fun s w' h=>ah.of (h.1.mono (by simp))) (fun s=> ?_)
   ·kernel_rfl
   simp only[Act.put,sA,sB,sC];refine cP (fun u=>∃g cap,u=.slice (some ⟨g,0,none⟩) (P.length+1) cap) (fun u w'=>Mod (Value.slice a7 l7 c7).ownBlock.toList w9 w'∧w'.ownsRow w4.heap.size 104 2 u (P.length+1) (ax (P++[(xo+xl,ao+al-(xo+xl))]))) rfl rfl ⟨_,0,0,rfl⟩ (fun w' hw=> ?_) (fun u w' h=>ah.of h.1) (fun u hu=> ?_)
   ·obtain⟨g1,g5⟩:=hw;have g2:=aG hP9H.out g1 (by simp);obtain⟨v',w3',hr,r2,r3,r4⟩:=gG (P:=Tryz.prog) w' 120 120 104 i0 (.agg #[.int .i64 0,.int .i64 0]) 2 16 Tryz.underlying120 hi0 hz0 hz1 hz2 rfl (by decide) _ P.length (ax P) (aE g2 (Nat.zero_le _)) ⟨s,0,none⟩ 1 1 [.int .i64 (xo+xl),.int .i64 (ao+al-(xo+xl))] rfl (fun j u hj=>by rw[Ty.eT,Nat.zero_add,ae g5];simpa using hj) (by simp[Value.oneCell']) (by unfold maxLen;omega) (by omega);obtain⟨g',cap',rfl,_,_⟩:=cW r2 (by omega);rw[←mQ P (xo+xl,ao+al-(xo+xl))]at r2;refine⟨_,w3',Ty.eM _ _ 120 rfl rfl rfl hr,⟨g',cap',rfl⟩,(g1.mono (by simp)).grown r3 (fun k hk=>.inl (by simp[hk])),cy r2 fun x hx=> ?_⟩;rcases r4 x hx with h|h
    ·exact(g2.lt x h).1
    ·have:=g1.size;omega
   obtain⟨g,cap2,rfl⟩:=hu;refine sq 1 ?_;refine au fun w10 hw10=> ?_
   obtain⟨hm10,hr10⟩:=hw10;have hmZ:=zh (hm9H.out.then hm10 fun x hx=>.inr (by have:=(hP9H.out.lt x (by simpa using hx)).1;omega));have hrZ:Hid (w10.ownsRow w4.heap.size 104 2 (.slice (some ⟨g,0,none⟩) (P.length+1) cap2) (P++[(xo+xl,ao+al-(xo+xl))]).length (ax (P++[(xo+xl,ao+al-(xo+xl))]))):=zh (by simpa using hr10);have hQ:Hid (P++[(xo+xl,ao+al-(xo+xl))]=A++(gS (ao,al) (xo,xl)++iu (ao,al) (xo,xl))):=zh (by rw[←List.append_assoc, ←hPl.out];unfold iu;rw[if_pos hright]);have hQn:(P++[(xo+xl,ao+al-(xo+xl))]).length≤999001:=by simp;omega
   generalize P++[(xo+xl,ao+al-(xo+xl))]=Q at*;clear qx qy hm10 hr10 hP9H hy9H hbx9H hm9H hPl;have hsrc:=hH.out.mod hmZ.out;rw[hnH.out]at hsrc;have hnC:n=A.length+(C.length+1):=by rw[hnH.out];simp
   have h63:Q.length+C.length≤maxLen:=by unfold maxLen;omega
   have hby:(Q.length+C.length)*16≤140737488355328:=by omega
   have hfC:=zh (eL C);by_cases hce:cap=A.length+1
   ·have hC0:C=[]:=List.eq_nil_of_length_eq_zero (by omega);subst hC0;subst hce;have hn1:n=A.length+1:=by simpa using hnC
    subst hn1;clear hsrc;go_wp2_with (at_builtin;refine dO _ rfl _ _ 120 rfl 104 i0 (.agg #[.int .i64 0,.int .i64 0]) 2 16 Tryz.underlying120 hi0 hz0 hz1 hz2 rfl (by decide) (.slice (some ⟨g,0,none⟩) (P.length+1) cap2) Q.length (ax Q) rfl (aE hrZ.out (Nat.zero_le _)) ⟨sb,so,none⟩ 0 0 [] rfl rfl (by simp) (by simp) (by simpa using h63) (by simpa using hby) ?_;intro vF wF hownF hgrowF hfrF;have hownF:=zh hownF;have hgrowF:=zh hgrowF;have hfrF:=zh hfrF);refine bodyPost_ret (v:=.tuple #[vF,.int .i64 0]) (by simp[results,Tryz.results178,go_sem]) rfl ⟨vF,rfl,?_,hmZ.out.grown hgrowF.out fun k hk=>.inr ?_⟩
    ·have h1:=hownF.out;rw[List.append_nil,Nat.add_zero]at h1;rw[List.append_nil, ←hQ.out];refine cy h1 fun g' hg=> ?_
     rcases hfrF.out g' hg with h|h
     ·have:=(hrZ.out.lt g' h).1;omega
     ·have:=hmZ.out.size;omega
    ·have:=(hrZ.out.lt k hk).1;omega
   ·have hcs:∀j u,(ax C)[j]? =some u→w10.cell? ((⟨sb,so+(A.length+1)*2,none⟩:Addr).add j)=some u:=by
     match C,hsrc with
     | [],_=>intro j u h;simp[ax]at h
     |c::C',hsrc=>
      have hdr:=od (i:=A.length+1) hsrc (by simp) (cap-(A.length+1));have e:(A++(ao,al)::c::C').drop (A.length+1)=c::C':=by simp
      rw[e]at hdr;exact iR hdr
    have hcsH:=zh hcs;have hnm:n-(A.length+1)=C.length:=by omega
    have hnmH:=zh hnm;clear hsrc hcs hnm hnC;go_wp2_with (at_builtin;refine dO _ rfl _ _ 120 rfl 104 i0 (.agg #[.int .i64 0,.int .i64 0]) 2 16 Tryz.underlying120 hi0 hz0 hz1 hz2 rfl (by decide) (.slice (some ⟨g,0,none⟩) (P.length+1) cap2) Q.length (ax Q) rfl (aE hrZ.out (Nat.zero_le _)) ⟨sb,so+(A.length+1)*2,none⟩ (n-(A.length+1)) (cap-(A.length+1)) (ax C) rfl (by rw[hnmH.out];exact hfC.out) hcsH.out (fD C) (by rw[hnmH.out];exact h63) (by rw[hnmH.out];exact hby) ?_;intro vF wF hownF hgrowF hfrF;have hownF:=zh hownF;have hgrowF:=zh hgrowF;have hfrF:=zh hfrF);refine bodyPost_ret (v:=.tuple #[vF,.int .i64 0]) (by simp[results,Tryz.results178,go_sem]) rfl ⟨vF,rfl,?_,hmZ.out.grown hgrowF.out fun k hk=>.inr ?_⟩
    ·have h1:=hownF.out;rw[hnmH.out,show ax Q++ax C=ax (Q++C) by simp[ax]]at h1;rw[←hQ.out,List.length_append];refine cy h1 fun g' hg=> ?_
     rcases hfrF.out g' hg with h|h
     ·have:=(hrZ.out.lt g' h).1;omega
     ·have:=hmZ.out.size;omega
    ·have:=(hrZ.out.lt k hk).1;omega
  ·have hmZ:=hm9H;have hrZ:=hP9H;have hQ:Hid (P=A++(gS (ao,al) (xo,xl)++iu (ao,al) (xo,xl))):=zh (by rw[←List.append_assoc, ←hPl.out];unfold iu;rw[if_neg hright,List.append_nil]);have hQn:P.length≤999001:=by omega
   generalize P=Q at*;clear hP9H hy9H hbx9H hm9H hPl;have hsrc:=hH.out.mod hmZ.out;rw[hnH.out]at hsrc;have hnC:n=A.length+(C.length+1):=by rw[hnH.out];simp
   have h63:Q.length+C.length≤maxLen:=by unfold maxLen;omega
   have hby:(Q.length+C.length)*16≤140737488355328:=by omega
   have hfC:=zh (eL C);by_cases hce:cap=A.length+1
   ·have hC0:C=[]:=List.eq_nil_of_length_eq_zero (by omega);subst hC0;subst hce;have hn1:n=A.length+1:=by simpa using hnC
    subst hn1;clear hsrc;go_wp2_with (at_builtin;refine dO _ rfl _ _ 120 rfl 104 i0 (.agg #[.int .i64 0,.int .i64 0]) 2 16 Tryz.underlying120 hi0 hz0 hz1 hz2 rfl (by decide) (.slice a7 l7 c7) Q.length (ax Q) rfl (aE hrZ.out (Nat.zero_le _)) ⟨sb,so,none⟩ 0 0 [] rfl rfl (by simp) (by simp) (by simpa using h63) (by simpa using hby) ?_;intro vF wF hownF hgrowF hfrF;have hownF:=zh hownF;have hgrowF:=zh hgrowF;have hfrF:=zh hfrF);refine bodyPost_ret (v:=.tuple #[vF,.int .i64 0]) (by simp[results,Tryz.results178,go_sem]) rfl ⟨vF,rfl,?_,hmZ.out.grown hgrowF.out fun k hk=>.inr ?_⟩
    ·have h1:=hownF.out;rw[List.append_nil,Nat.add_zero]at h1;rw[List.append_nil, ←hQ.out];refine cy h1 fun g' hg=> ?_
     rcases hfrF.out g' hg with h|h
     ·have:=(hrZ.out.lt g' h).1;omega
     ·have:=hmZ.out.size;omega
    ·have:=(hrZ.out.lt k hk).1;omega
   ·have hcs:∀j u,(ax C)[j]? =some u→w9.cell? ((⟨sb,so+(A.length+1)*2,none⟩:Addr).add j)=some u:=by
     match C,hsrc with
     | [],_=>intro j u h;simp[ax]at h
     |c::C',hsrc=>
      have hdr:=od (i:=A.length+1) hsrc (by simp) (cap-(A.length+1));have e:(A++(ao,al)::c::C').drop (A.length+1)=c::C':=by simp
      rw[e]at hdr;exact iR hdr
    have hcsH:=zh hcs;have hnm:n-(A.length+1)=C.length:=by omega
    have hnmH:=zh hnm;clear hsrc hcs hnm hnC;go_wp2_with (at_builtin;refine dO _ rfl _ _ 120 rfl 104 i0 (.agg #[.int .i64 0,.int .i64 0]) 2 16 Tryz.underlying120 hi0 hz0 hz1 hz2 rfl (by decide) (.slice a7 l7 c7) Q.length (ax Q) rfl (aE hrZ.out (Nat.zero_le _)) ⟨sb,so+(A.length+1)*2,none⟩ (n-(A.length+1)) (cap-(A.length+1)) (ax C) rfl (by rw[hnmH.out];exact hfC.out) hcsH.out (fD C) (by rw[hnmH.out];exact h63) (by rw[hnmH.out];exact hby) ?_;intro vF wF hownF hgrowF hfrF;have hownF:=zh hownF;have hgrowF:=zh hgrowF;have hfrF:=zh hfrF);refine bodyPost_ret (v:=.tuple #[vF,.int .i64 0]) (by simp[results,Tryz.results178,go_sem]) rfl ⟨vF,rfl,?_,hmZ.out.grown hgrowF.out fun k hk=>.inr ?_⟩
    ·have h1:=hownF.out;rw[hnmH.out,show ax Q++ax C=ax (Q++C) by simp[ax]]at h1;rw[←hQ.out,List.length_append];refine cy h1 fun g' hg=> ?_
     rcases hfrF.out g' hg with h|h
     ·have:=(hrZ.out.lt g' h).1;omega
     ·have:=hmZ.out.size;omega
    ·have:=(hrZ.out.lt k hk).1;omega
end Go.Proofs.YtdehaommhbjakaaGreat
