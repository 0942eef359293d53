/- Joined contracts. No conditions. -/
import Derived.Test.YtdehaommhbjakaaGreatC30
set_option maxHeartbeats 4000000
set_option maxRecDepth 20000
namespace Go.Proofs.YtdehaommhbjakaaGreat
open RowKit Stg
open Ty (aw fF ax eL iR fD fW)
def zy (fr fr':List Ext) (x:Ext):Prop:=VS fr'∧(∀y,bB y fr'↔bB y fr∧¬bw y x)∧fr'.length≤fr.length+1
def zw (fr fr':List Ext) (x:Ext):Prop:=VS fr'∧(∀y,bB y fr'↔bB y fr∨bw y x)∧fr'.length≤fr.length+1
theorem vt {used:List Ext} {x:Ext} (h:cK used x.1=none) (off:Int):cK (used++[x]) off=if off=x.1 then some x.2 else cK used off:=by
 unfold cK at*;rw[List.find?_append];by_cases e:off=x.1
 ·subst e;rw[if_pos rfl,Option.map_eq_none_iff.1 h,Option.none_or];simp
 ·rw[if_neg e]
  cases used.find? fun e=>decide (e.1=off)with
  |some a=>rfl
  |none=>simp[Ne.symm e]
theorem Da (used:List Ext) (o off:Int):cK (used.filter fun e=>decide (e.1≠o)) off=if off=o then none else cK used off:=by
 unfold cK;rw[List.find?_filter];by_cases e:off=o
 ·subst e;rw[if_pos rfl,List.find?_eq_none.2]
  ·rfl
  ·intro a _;simp
 ·rw[if_neg e];congr 2;funext a;by_cases h:a.1=off
  ·simp[h,e]
  ·simp[h]
theorem fI.put {w:World} {bm:Nat} {used:List Ext} (h:fI w bm used) {x:Ext} (hx:cK used x.1=none):∃w',(Instr.mapUpdate 140 (.map (some bm)) (.int .i64 x.1) (.int .i64 x.2)).run Tryz.prog w=.ok () w'∧fI w' bm (used++[x])∧Mod [bm] w w':=by
 obtain⟨es,c,h1,h2,h3⟩:=h;obtain⟨k1,k2⟩:=kE x.1 (.int .i64 x.2) c es h2;refine⟨_,mM (P:=Tryz.prog) Tryz.underlying140 Tryz.underlying3 h1 h2 x.1 (.int .i64 x.2),⟨_,_,ie h1,k1,fun off=> ?_⟩,(Mod.refl [bm] w).gj (.inl (by simp)) _⟩;rw[k2,vt hx];by_cases e:off=x.1
 ·simp[e]
 ·rw[if_neg e,if_neg e];exact h3 off
theorem find_spec {fr:List Ext} (hs:VS fr) {n:Int} (hn:eW fr n=0):∃A C a,fr=A++a::C∧proper (dn fr n)∧a.1≤(dn fr n).1∧(dn fr n).1+(dn fr n).2≤a.1+a.2∧(dn fr n).1=a.1:=by
 have hx:dn fr n=((jq (cT (cB n) fr)).1,cB n):=by unfold dn;rw[if_pos hn]
 unfold eW at hn;by_cases h1:gn n≠0
 ·rw[if_pos h1]at hn;exact absurd hn h1
 ·rw[if_neg h1]at hn
  cases hb:cT (cB n) fr with
  |none=>rw[hb]at hn;simp at hn
  |some b=>
   obtain⟨k1,k2⟩:=pT hb;obtain⟨A,C,e⟩:=List.append_of_mem k1;rw[hb]at hx;rw[hx];have hp:=hs.1 b k1;unfold proper at hp;have hr:gn n=0:=Classical.byContradiction fun h=>h1 h
   have hr2:16≤cB n:=by
    unfold gn at hr;split at hr
    ·simp at hr
    ·split at hr
     ·simp at hr
     ·exact(nU (by omega) (by omega)).2.2.1
   have e1:jq (some b)=b:=rfl;rw[e1];refine⟨A,C,b,e,?_,by simp,?_,rfl⟩
   ·unfold proper;simp only;omega
   ·simp only;omega
def GI (ab:Nat) (fr used:List Ext) (x:Ext) (w:World) (f:List Nat) (e:Ending) (w':World):Prop:=
 ∃fr',zy fr fr' x∧bD (db ab fr' (used++[x])) (.tuple #[.agg #[.int .i64 x.1,.int .i64 x.2],.int .i64 0]) w f e w'
theorem By {ab:Nat} {fr used:List Ext} {w:World} {f:List Nat} (h:(db ab fr used).on w f) (hs:VS fr) (n:Int) (hn:eW fr n≠0):
  Calls Tryz.prog 154 #[.pointer (some ⟨ab,0,none⟩),.int .i64 n] w fun e w'=>e=.returned (.tuple #[.agg #[.int .i64 0,.int .i64 0],.int .i64 (eW fr n)])∧Mod [] w w':=by
 obtain⟨bm,fv,hH⟩:=h;have hS:=af.start hH;have hf:=zh fun w' (hm:Mod [] w w')=>xF (hm.at (hS.block 0 rfl) (by simp)) ((fW (hS.row 1 rfl) rfl).mod hm) hs n
 obtain⟨E,hE⟩:∃E,eW fr n=E:=⟨_,rfl⟩;obtain⟨X,hX⟩:∃X,dn fr n=X:=⟨_,rfl⟩;rw[hE]at hn;simp only[hE,hX]at hf;rw[hE];have hne:(E != 0)=true:=by simpa using hn
 clear hH hS hE hX hn;have h0:=an w (.cells #[.int .i64 0,.int .i64 0] 104);have hm0:=(Mod.refl [] w).alloc (.cells #[.int .i64 0,.int .i64 0] 104);have h0H:=zh h0;have hm0H:=zh hm0;clear h0 hm0;go_enter Tryz.func154,Tryz.ntmps154;go_wp2_with fail;refine(hf.out _ hm0H.out).mono ?_;rintro e w1 ⟨rfl,hm1⟩;have h1:=hm1.at h0H.out (by simp);have hc1:=ae h1;have hf1:=ay h1;have hmH:=zh (hm0H.out.ag hm1);have h1H:=zh h1;have hlt:=hm1.gt;clear h1 hm1 hf;go_wp2_with fail;have hq:=aI (o:=.cells #[.int .i64 X.1,.int .i64 X.2] 104) (aq (o:=1) (v:=.int .i64 0) (aq (o:=0) (v:=.int .i64 0) h1H.out));refine bodyPost_ret (gX Tryz.results154 rfl rfl hq Tryz.underlying104 rfl (by kernel_rfl)) rfl ⟨rfl,?_⟩;exact((hmH.out.setCell (p:=⟨w.heap.size,0,none⟩) (.inr (Nat.le_refl _)) (.int .i64 0)).setCell (p:=⟨w.heap.size,1,none⟩) (.inr (Nat.le_refl _)) (.int .i64 0)).alloc _
theorem AS {ab:Nat} {fr used:List Ext} {w:World} {f:List Nat} (h:(db ab fr used).on w f) (hs:VS fr) (hl:fr.length≤900000) (n:Int) (hn:eW fr n=0) (hno:cK used (dn fr n).1=none):
  Calls Tryz.prog 154 #[.pointer (some ⟨ab,0,none⟩),.int .i64 n] w (GI ab fr used (dn fr n) w f):=by
 obtain⟨bm,fv,hH⟩:=h;have hS:=af.start hH;have hf:=zh fun w' (hm:Mod [] w w')=>xF (hm.at (hS.block 0 rfl) (by simp)) ((fW (hS.row 1 rfl) rfl).mod hm) hs n
 obtain⟨A,C,a,hfr,hx,hx1,hx2,hxa⟩:=find_spec hs hn;generalize hX:dn fr n=X at*;simp only[hn]at hf;subst hfr;obtain⟨xo,xl⟩:=X;have hXp:=hx;unfold proper at hXp;simp only at hx1 hx2 hno hXp;have hlaw:=zh (vo hs hx hx1 hx2);have hrem:=zh fun(w':World) (b0:Nat) (hr:w'.ownsRow b0 104 2 fv (A++a::C).length (ax (A++a::C)))=>su hr hs (by omega) hx hx1 hx2
 have h0:=an w (.cells #[.int .i64 0,.int .i64 0] 104);have hS0:=zh (hS.alloc (.cells #[.int .i64 0,.int .i64 0] 104));have hm0H:=zh ((Mod.refl [] w).alloc (.cells #[.int .i64 0,.int .i64 0] 104));have hnoH:=zh hno;clear h0 hH hS hn hX hs hx hx1 hx2 hxa hno;go_enter Tryz.func154,Tryz.ntmps154;go_wp2_with fail;refine(hf.out _ hm0H.out).mono ?_;rintro e w1 ⟨rfl,hm1⟩;have hS1:=zh ((hS0.out.then hm1).alloc (.cells #[.int .i64 xo,.int .i64 xl] 104));have hlt:=hm1.gt;clear hm1 hf hS0;go_wp2_with fail;have hS2:=zh ((hS1.out.out 3 rfl).out 3 rfl);have hbw:w1.heap.size≠w.heap.size:=by omega
 generalize w1.alloc (.cells #[.int .i64 xo,.int .i64 xl] 104)=W at*;generalize w1.heap.size=bx at*;have k1:=GW.cells (S:=[]) (hS2.out.block 0 rfl) (by simp);have k2:=GW.cells (S:=[]) (hS2.out.block 2 rfl) (by simp);clear hS1;refine aS (by kernel_rfl) (by kernel_rfl) ?_;refine sq 6 ?_;refine cD 178 _ (fun v=>∃a m c,v=.tuple #[.slice a m c,.int .i64 0]) (fun v w'=>∃u,v=.tuple #[u,.int .i64 0]∧Mod [] W w'∧w'.ownsRow W.heap.size 104 2 u (A++(gS a (xo,xl)++iu a (xo,xl))++C).length (ax (A++(gS a (xo,xl)++iu a (xo,xl))++C))) rfl Tryz.call178 rfl rfl ⟨_,none,0,0,rfl⟩ (fun w' hm=>(hrem.out w' _ (aG (hS2.out.row 1 rfl) hm (by simp))).mono fun r w'' ⟨u,g1,g2,g3⟩=>by
  obtain⟨ua,ul,uc,rfl⟩:=cx g2;exact⟨_,g1,⟨ua,ul,uc,rfl⟩,_,rfl,hm.ag g3,aE g2 hm.size⟩) (fun v w' ⟨_,_,h,_⟩=>ah.of h) (fun v hv=> ?_)
 obtain⟨ua,ul,uc,rfl⟩:=hv;refine sq 5 ?_;refine dq (p:=⟨ab,0,none⟩) (u:=.slice ua ul uc) (fun w'=>w'.setCell ⟨ab,0,none⟩ (.slice ua ul uc)) rfl rfl (by kernel_rfl) rfl rfl rfl (fun w' hw=> ?_) (fun w' hw=> ?_)
 ·obtain⟨_,_,hm,_⟩:=hw;have hb6:=hm.at (hS2.out.block 0 rfl) (by simp);have c1:=ae hb6;have f1:=ay hb6;clear k1 k2;go_simp
 obtain⟨u',hu',hm5,hr5⟩:=hw;obtain rfl:u'=.slice ua ul uc:=by simpa using hu'.symm
 have hS3:=zh ((lu (o:=0) hS2.out (hm5.mono (by simp)) (aE hr5 (Nat.zero_le _)) (fun x hx=>.inr (hr5.lt x hx).1)).out 4 rfl);clear k1 k2 hS2 hm5 hr5 hu' hrem;generalize w'.setCell ⟨ab,0,none⟩ (.slice ua ul uc)=W5 at*;obtain⟨f5,⟨hT5,rfl⟩,hput⟩:=hS3.out.part 0 rfl;obtain⟨es,cc,hb5,hk5,hl5⟩:=hT5;have hputH:=zh hput;have hl5H:=zh hl5;have hb5H:=zh hb5;have hne5:bm≠ab∧bm≠bx:=by
  obtain⟨fa,ga,⟨_,rfl⟩,⟨_,rfl⟩,ha⟩:=hS3.out.two 0 0 rfl rfl;obtain⟨fb,gb,⟨_,rfl⟩,⟨_,rfl⟩,hb⟩:=hS3.out.two 0 2 rfl rfl;exact⟨fun e=>ha bm (by simp) (by simp[e]),fun e=>hb bm (by simp) (by simp[e])⟩
 have k1:=GW.cells (S:=[bm]) (hS3.out.block 1 rfl) (by simp;omega);have k2:=GW.cells (S:=[bm]) (hS3.out.block 3 rfl) (by simp;omega);clear hb5 hl5 hput;go_wp2_with fail;refine bY (fun w'=>∃x:GW [bm] W5,w'=x.1) (fun w'=>Mod [] W5 w') (by kernel_rfl) (by kernel_rfl) (fun _ h=>ah.of (h.mono (by simp))) (Mod.refl _ _).drew ?_;refine sq 8 ?_;refine ph bm es cc xo (.int .i64 xl) (fun w'=>Mod [bm] W5 w'∧w'.heap[bm]? =some (.map (c9 xo (.int .i64 xl) cc es).1 (c9 xo (.int .i64 xl) cc es).2)) rfl Tryz.underlying140 Tryz.underlying3 rfl rfl rfl rfl hk5 (fun w' h=>h.at hb5H.out (by simp)) (fun w' h=>⟨(h.mono (by simp)).gj (.inl (by simp)) _,ie (h.at hb5H.out (by simp))⟩) (fun w' h=>ah.of h.1) ?_;simp only[Act.put];refine au fun w6 hw6=> ?_
 obtain⟨hm6,hb6⟩:=hw6;obtain⟨k5,k6⟩:=kE xo (.int .i64 xl) cc es hk5;have hS6:=zh (hputH.out w6 [bm] (qw bm (used++[(xo,xl)])) ⟨⟨_,_,hb6,k5,fun off=>by
  rw[k6,vt hnoH.out];by_cases e:off=xo
  ·simp[e]
  ·rw[if_neg e,if_neg e];exact hl5H.out off⟩,rfl⟩ hm6 (fun x hx=>.inl hx))
 have hc3:=ae (hS6.out.block 3 rfl);have hc4:=ae (hS6.out.block 4 rfl);have hf4:=ay (hS6.out.block 4 rfl);clear k1 k2 k5 k6 hm6 hb6 hputH hl5H hb5H hk5 hS3;go_wp2_with fail;have hS7:=((hS6.out.bO 4 rfl 0 (.int .i64 xo)).bO 4 rfl 1 (.int .i64 xl));refine bodyPost_ret (gX Tryz.results154 rfl rfl (hS7.block 4 rfl) Tryz.underlying104 rfl (by kernel_rfl)) rfl ?_;obtain⟨f',q1,q2,q3⟩:=(((hS7.erase 4).erase 3).out 2 rfl |>.out 2 rfl).done;refine⟨A++(gS a (xo,xl)++iu a (xo,xl))++C,⟨hlaw.out.1,hlaw.out.2,?_⟩,f',rfl,⟨bm,_,q1⟩,q2,q3⟩;have e1:(gS a (xo,xl)).length≤1:=by unfold gS;split<;>simp
 have e2:(iu a (xo,xl)).length≤1:=by unfold iu;split<;>simp
 simp only[List.length_append,List.length_cons];omega
theorem fI.del {w:World} {bm:Nat} {used:List Ext} (h:fI w bm used) (o:Int) (ty:TypeId):∃w',(Builtin.delete_ #[140,3] ty #[.map (some bm),.int .i64 o]).run Tryz.prog w=.ok (.tuple #[]) w'∧fI w' bm (used.filter fun e=>decide (e.1≠o))∧Mod [bm] w w':=by
 obtain⟨es,c,h1,h2,h3⟩:=h;obtain⟨k1,k2⟩:=wy o es h2;refine⟨_,uk (P:=Tryz.prog) (ty:=ty) Tryz.underlying140 Tryz.underlying3 h1 h2 o _ rfl,⟨_,_,ie h1,k1,fun off=> ?_⟩,(Mod.refl [bm] w).gj (.inl (by simp)) _⟩;rw[k2,Da];by_cases e:off=o
 ·simp[e]
 ·rw[if_neg e,if_neg e];exact h3 off
def Gx (ab:Nat) (fr used:List Ext) (x:Ext) (w:World) (f:List Nat) (e:Ending) (w':World):Prop:=
 ∃fr',zw fr fr' x∧bD (db ab fr' (used.filter fun e=>decide (e.1≠x.1))) (.int .i64 0) w f e w'
theorem Df {ab:Nat} {fr used:List Ext} {w:World} {f:List Nat} (h:(db ab fr used).on w f) (hs:VS fr) (hl:fr.length≤50000) {xo xl:Int} (hx:proper (xo,xl)) (hm:∀a∈fr,¬meets a (xo,xl)) (hu:hasB used (xo,xl)=true):
  Calls Tryz.prog 181 #[.pointer (some ⟨ab,0,none⟩),.agg #[.int .i64 xo,.int .i64 xl]] w (Gx ab fr used (xo,xl) w f):=by
 obtain⟨bm,fv,hH⟩:=h;have hhas:=zh fun w' (h':af f w (aj w.heap.size (.cells #[.int .i64 xo,.int .i64 xl] 104 (0,0))::uf ab bm fv fr used) w')=>zb (h'.block 1 rfl) (uG 3 h' rfl) xo xl
 rw[hu]at hhas;have hS0:=zh ((af.start hH).alloc (.cells #[.int .i64 xo,.int .i64 xl] 104));have hins:=zh fun(w':World) (b0:Nat) (hr:w'.ownsRow b0 104 2 fv fr.length (ax fr))=>CY hr hs hl hx hm
 clear hH hu hx hm;go_enter Tryz.func181,Tryz.ntmps181;go_wp2_with fail;refine(hhas.out _ hS0.out).mono ?_;rintro e w1 ⟨rfl,hm1⟩;have hS1:=zh ((hS0.out.then hm1).out 3 rfl);clear hm1 hhas hS0;go_wp2_with fail;generalize w.heap.size=bx at*;obtain⟨f5,⟨hT5,rfl⟩,hput⟩:=hS1.out.part 0 rfl;have hputH:=zh hput;have hT5H:=zh hT5;have hne5:bm≠ab∧bm≠bx:=by
  obtain⟨fa,ga,⟨_,rfl⟩,⟨_,rfl⟩,ha⟩:=hS1.out.two 0 1 rfl rfl;obtain⟨fb,gb,⟨_,rfl⟩,⟨_,rfl⟩,hb⟩:=hS1.out.two 0 0 rfl rfl;exact⟨fun e=>ha bm (by simp) (by simp[e]),fun e=>hb bm (by simp) (by simp[e])⟩
 have k1:=GW.cells (S:=[bm]) (hS1.out.block 2 rfl) (by simp;omega);have k2:=GW.cells (S:=[bm]) (hS1.out.block 1 rfl) (by simp;omega);clear hput hT5;refine bY (fun w'=>∃x:GW [bm] w1,w'=x.1) (fun w'=>Mod [] w1 w') (by kernel_rfl) (by kernel_rfl) (fun _ h=>ah.of (h.mono (by simp))) (Mod.refl _ _).drew ?_;refine sq 6 ?_;refine rV (fun w'=>Mod [bm] w1 w'∧fI w' bm (used.filter fun e=>decide (e.1≠xo))) rfl rfl rfl rfl (fun w' h=> ?_) (fun _ h=>ah.of h.1) ?_
 ·obtain⟨w4,hr,h4,hmd⟩:=(hT5H.out.mod h (by simp)).del xo _;exact⟨w4,hr,(h.mono (by simp)).trans hmd,h4⟩
 simp only[Act.put];refine au fun w2 aP=> ?_
 obtain⟨hm2,hT2⟩:=aP;have hS2:=zh (((hputH.out w2 [bm] (qw bm (used.filter fun e=>decide (e.1≠xo))) ⟨hT2,rfl⟩ hm2 (fun x hx=>.inl hx)).out 3 rfl).out 3 rfl);clear k1 k2 hputH hT5H hm2 hT2 hS1 hne5;go_wp2_with fail;generalize w2=W at*;have k1:=GW.cells (S:=[]) (hS2.out.block 0 rfl) (by simp);have k2:=GW.cells (S:=[]) (hS2.out.block 3 rfl) (by simp);refine aS (by kernel_rfl) (by kernel_rfl) ?_;refine sq 6 ?_;refine cD 193 _ (fun v=>∃a m c,v=.tuple #[.slice a m c,.int .i64 0]) (fun v w'=>∃u s',v=.tuple #[u,.int .i64 0]∧(VS s'∧(∀y,bB y s'↔bB y fr∨bw y (xo,xl))∧s'.length≤fr.length+1)∧Mod [] W w'∧w'.ownsRow W.heap.size 104 2 u s'.length (ax s')) rfl Tryz.call193 rfl rfl ⟨_,none,0,0,rfl⟩ (fun w' hm=>(hins.out w' _ (aG (hS2.out.row 1 rfl) hm (by simp))).mono fun r w'' ⟨u,s',g1,g2,g3,g4,g5,g6⟩=>by
  obtain⟨ua,ul,uc,rfl⟩:=cx g5;exact⟨_,g1,⟨ua,ul,uc,rfl⟩,_,s',rfl,⟨g2,g3,g4⟩,hm.ag g6,aE g5 hm.size⟩) (fun v w' ⟨_,_,_,_,h,_⟩=>ah.of h) (fun v hv=> ?_)
 obtain⟨ua,ul,uc,rfl⟩:=hv;refine sq 5 ?_;refine dq (p:=⟨ab,0,none⟩) (u:=.slice ua ul uc) (fun w'=>w'.setCell ⟨ab,0,none⟩ (.slice ua ul uc)) rfl rfl (by kernel_rfl) rfl rfl rfl (fun w' hw=> ?_) (fun w' hw=> ?_)
 ·obtain⟨_,_,_,_,hm,_⟩:=hw;have hb6:=hm.at (hS2.out.block 0 rfl) (by simp);have c1:=ae hb6;have f1:=ay hb6;clear k1 k2;go_simp
 obtain⟨u',s',hu',hlaw,hm5,hr5⟩:=hw;obtain rfl:u'=.slice ua ul uc:=by simpa using hu'.symm
 have hS3:=zh (lu (o:=0) hS2.out (hm5.mono (by simp)) (aE hr5 (Nat.zero_le _)) (fun x hx=>.inr (hr5.lt x hx).1));have hlawH:=zh hlaw;clear k1 k2 hS2 hm5 hr5 hu' hins hlaw;go_wp2_with fail;go_ret;obtain⟨f',q1,q2,q3⟩:=((hS3.out.erase 3)).done;exact⟨s',hlawH.out,f',rfl,⟨bm,_,q1⟩,q2,q3⟩
theorem sh {size:Int} {used:List Ext} (hu:cJ size used) {o l:Int} (h:(o,l)∈used):cK used o=some l:=by
 unfold cK
 cases hf:used.find? fun e=>decide (e.1=o)with
 |none=>
  rw[List.find?_eq_none]at hf;have:=hf _ h;simp at this
 |some e=>
  obtain⟨e1,e2⟩:=e;have he:=List.mem_of_find?_eq_some hf;have h1:e1=o:=by simpa using List.find?_some hf
  subst h1;by_cases hne:e2=l
  ·simp[hne]
  ·exfalso;have p1:=hu.len (e:=(e1,e2)) he;have p2:=hu.len (e:=(e1,l)) h;obtain⟨i,hi,e3⟩:=List.getElem_of_mem he;obtain⟨j,hj,e4⟩:=List.getElem_of_mem h;have hd:=List.pairwise_iff_getElem.1 hu.mL;have hm:∀x y:Int,0<x→0<y→meets (e1,x) (e1,y):=fun x y hx hy=>by unfold meets;simp only;omega
   rcases Nat.lt_trichotomy i j with hij|hij|hij
   ·exact hd i j hi hj hij (by rw[e3,e4];exact hm _ _ p1 p2)
   ·subst hij;rw[e3]at e4;simp at e4;exact hne e4
   ·exact hd j i hj hi hij (by rw[e3,e4];exact hm _ _ p2 p1)
theorem F6 {size:Int} {used:List Ext} (hu:cJ size used) {x:Ext} (h:x∈used):hasB used x=true:=by
 unfold hasB;rw[sh hu (o:=x.1) (l:=x.2) h];simp
theorem Cd {size:Int} {used used':List Ext} (hu:cJ size used) (p:used.Perm used') (off:Int):cK used off=cK used' off:=by
 cases h:cK used' off with
 |none=>
  cases h':cK used off with
  |none=>rfl
  |some l=>
   unfold cK at h';rw[Option.map_eq_some_iff]at h';obtain⟨e,he,hl⟩:=h';have h1:=List.mem_of_find?_eq_some he;have h2:e.1=off:=by simpa using List.find?_some he
   have:=sh (hu.perm p) (o:=off) (l:=l) (by rw[←h2, ←hl];exact p.mem_iff.1 h1);rw[h]at this;cases this
 |some l=>
  unfold cK at h;rw[Option.map_eq_some_iff]at h;obtain⟨e,he,hl⟩:=h;have h1:=List.mem_of_find?_eq_some he;have h2:e.1=off:=by simpa using List.find?_some he
  exact sh hu (o:=off) (l:=l) (by rw[←h2, ←hl];exact p.mem_iff.2 h1)
theorem FM {size:Int} {A C:List Ext} {x:Ext} (hu:cJ size (A++x::C)):(A++x::C).filter (fun e=>decide (e.1≠x.1))=A++C:=by
 have hx:=hu.len (e:=x) (by simp);have hno:∀e∈A++C,e.1≠x.1:=fun e he h=>by
  have h1:=(qi hu).2 e he;have h2:=hu.len (e:=e) (by simp at he⊢;rcases he with h|h<;>simp[h]);exact h1 (by unfold meets;omega)
 rw[List.filter_append,List.filter_cons,if_neg (by simp),List.filter_eq_self.2 (fun a ha=>by simpa using hno a (List.mem_append_left _ ha)),List.filter_eq_self.2 (fun a ha=>by simpa using hno a (List.mem_append_right _ ha))]
theorem Aj {B b:List Int} {o:Nat} (h:o+b.length≤B.length):kf (aR B) o (aR b)=aR (ca B o b):=by
 apply List.ext_getElem?;intro i;rw[pW];unfold ca aR;simp only[List.length_map,List.getElem?_map];by_cases c:o≤i∧i<o+b.length∧i<B.length
 ·rw[if_pos c,List.append_assoc,List.getElem?_append_right (by simp;omega),List.getElem?_append_left (by simp;omega)];simp[show min o B.length=o by omega]
 ·rw[if_neg c];by_cases c1:i<o
  ·rw[List.append_assoc,List.getElem?_append_left (by simp;omega),List.getElem?_take,if_pos c1]
  ·by_cases c2:i<B.length
   ·rw[List.getElem?_append_right (by simp;omega),List.getElem?_drop];congr 2;simp;omega
   ·rw[List.getElem?_eq_none (by omega),List.getElem?_eq_none (by simp;omega)]
theorem dU {F:List Nat} {W w:World} {cs:List ai} (i:Nat) {g cap n:Nat} {B:List Int} (h:af F W cs w) (hi:cs[i]? =some (aT (.slice (some ⟨g,0,none⟩) n cap) n 5 1 (aR B))) {o:Nat} {b:List Int} (ho:o+b.length≤B.length):
  af F W (cs.set i (aT (.slice (some ⟨g,0,none⟩) n cap) n 5 1 (aR (ca B o b)))) (w.setCells g o (aR b)):=by
 obtain⟨fp,⟨h1,hf⟩,hk⟩:=h.part i hi;subst hf;refine hk _ _ _ ⟨?_,rfl⟩ (Mod.setCells (.inl (by simp[Value.ownBlock])) _ _ _ (Mod.refl _ _)) (fun x hx=>.inl hx);rw[←Aj ho];exact rk _ _ _ _ h1
def fe (ar ab:Nat) (bv:Value) (fr used:List Ext) (B:List Int):List ai:=
 [aj ar (.cells #[.pointer (some ⟨ab,0,none⟩),bv] 164 (0,0)),db ab fr used,aT bv B.length 5 1 (aR B)]
structure tW (size:Int) (used:List Ext) (B:List Int):Prop where
 s1:size≤1048576
 u:cJ size used
 ul:used.length≤10000
 len:(B.length:Int)=size
 byte:∀b∈B,0≤b∧b≤255
def Hi (ar:Nat) (size:Int) (used:List Ext) (B:List Int) (w:World) (f:List Nat):Prop:=tW size used B∧∃ab bv,aU (fe ar ab bv (bK size used) used B) w f
def b6 (ar:Nat) (size:Int) (used:List Ext) (B:List Int):ai:=
 ⟨Hi ar size used B,fun⟨h,a,b,k⟩ hm hT=>⟨h,a,b,k.bj hm hT⟩,fun⟨_,_,_,k⟩=>k.lt⟩
theorem Dn {size:Int} {used used':List Ext} (hz:size≤1048576) (hu:cJ size used) (p:used.Perm used'):bK size used'=bK size used:=oG ((hu.free hz).perm p)
theorem b6.perm {ar:Nat} {size:Int} {used used':List Ext} {B:List Int} {w:World} {f:List Nat} (h:(b6 ar size used B).on w f) (p:used.Perm used'):(b6 ar size used' B).on w f:=by
 obtain⟨hk,ab,bv,hH⟩:=h;refine⟨⟨hk.s1,hk.u.perm p,by rw[←p.length_eq];exact hk.ul,hk.len,hk.byte⟩,ab,bv,?_⟩;rw[Dn hk.s1 hk.u p];exact aU.zn (cs:=fe ar ab bv (bK size used) used B) 1 hH rfl fun _ hg=>db.congr hg (Cd hk.u p)
theorem sI {w:World} {ar ab:Nat} {bv:Value} (hb:w.heap[ar]? =some (.cells #[.pointer (some ⟨ab,0,none⟩),bv] 164 (0,0))):Calls Tryz.prog 143 #[.pointer (some ⟨ar,0,none⟩)] w fun e w'=>e=.returned (.pointer (some ⟨ab,0,none⟩))∧Mod [] w w':=by
 have hc:=ae hb;clear hb;go_enter Tryz.func143,Tryz.ntmps143;go_wp2_with fail;go_ret;exact⟨rfl,Mod.refl _ _⟩
def jk (off n len:Int):Bool:=decide (0≤off)&&(decide (n≤len)&&decide (off≤len-n))
theorem nT (p:Option Addr) (l c:Nat) (hl:l≤100000000) (off n:Int) (hn:0≤n) (w:World):Calls Tryz.prog 88 #[.slice p l c,.int .i64 off,.int .i64 n] w fun e w'=>e=.returned (.bool (jk off n l))∧Mod [] w w':=by
 have hln:∀ty w,(Builtin.len_ #[56] ty #[.slice p l c]).run Tryz.prog w=.ok (.int .i64 l) w:=fun ty w=>by simp[Builtin.len_,run_underlying Tryz.underlying56,goInt]
 unfold jk;by_cases h1:0≤off
 ·have e1:decide (off≥0)=true:=by simp[h1]
  by_cases h2:n≤l
  ·have e2:decide (n≤(l:Int))=true:=by simp[h2]
   have e3:decide (0≤off)=true:=by simp[h1]
   rw[e2,e3];go_enter Tryz.func88,Tryz.ntmps88;go_wp2_with fail;go_ret;exact⟨by simp,Mod.refl _ _⟩
  ·have e2:decide (n≤(l:Int))=false:=by simp;omega
   rw[e2];go_enter Tryz.func88,Tryz.ntmps88;go_wp2_with fail;go_ret;exact⟨by simp,Mod.refl _ _⟩
 ·have e1:decide (off≥0)=false:=by simp;omega
  have e3:decide (0≤off)=false:=by simp;omega
  rw[e3];go_enter Tryz.func88,Tryz.ntmps88;go_wp2_with fail;go_ret;exact⟨by simp,Mod.refl _ _⟩
theorem mR {w:World} {ar ab g n cap:Nat} {fr used:List Ext} {f:List Nat} (hb:w.heap[ar]? =some (.cells #[.pointer (some ⟨ab,0,none⟩),.slice (some ⟨g,0,none⟩) n cap] 164 (0,0))) (ha:(db ab fr used).on w f)
  (o l:Nat) (hu:hasB used (o,l)=true) (hl0:0<l) (hl:o+l≤n) (hc:n≤cap) (hn:n≤1048576) (_:cap≤maxLen):
  Calls Tryz.prog 87 #[.pointer (some ⟨ar,0,none⟩),.agg #[.int .i64 o,.int .i64 l]] w fun e w'=>e=.returned (.tuple #[.slice (some ⟨g,o,none⟩) l (cap-o),.int .i64 0])∧Mod [] w w':=by
 have hm0:=(Mod.refl [] w).alloc (.cells #[.int .i64 o,.int .i64 l] 104);have hb1:=zh (hm0.at hb (by simp));have hx1:=zh (an w (.cells #[.int .i64 o,.int .i64 l] 104));have hhas:=zh fun w' (hm:Mod [] w w')=>E4 (ai.bj (db ab fr used) ha hm (by simp)) o l
 rw[hu]at hhas;have hm0H:=zh hm0;clear hm0 hb ha hu;go_enter Tryz.func87,Tryz.ntmps87;go_wp2_with fail;have k1:=GW.cells (S:=[]) hx1.out (by simp);have k2:=GW.cells (S:=[]) hb1.out (by simp);refine aS (by kernel_rfl) (by kernel_rfl) ?_;refine sq 1 ?_;refine b7 143 #[.pointer (some ⟨ar,0,none⟩)] (.pointer (some ⟨ab,0,none⟩)) rfl Tryz.call143 rfl rfl (fun w' hm=>sI (hm.at hb1.out (by simp))) ?_;refine sq 1 ?_;refine b7 144 #[.pointer (some ⟨ab,0,none⟩),.agg #[.int .i64 o,.int .i64 l]] (.bool true) rfl Tryz.call144 rfl rfl (fun w' hm=>hhas.out w' (hm0H.out.ag hm)) ?_;refine sq 1 ?_;refine au fun w1 hm1=> ?_
 have hb2:=zh (hm1.at hb1.out (by simp));have hx2:=zh (hm1.at hx1.out (by simp));have hmH:=zh (hm0H.out.ag hm1);clear k1 k2 hm1 hb1 hx1 hm0H hhas;go_wp2_with fail;have k1:=GW.cells (S:=[]) hx2.out (by simp);have k2:=GW.cells (S:=[]) hb2.out (by simp);refine aS (by kernel_rfl) (by kernel_rfl) ?_;refine sq 14 ?_;refine au fun w2 hm2=> ?_
 rw[show o+l-o=l by omega];go_wp2_with fail;go_ret2;exact⟨rfl,hmH.out.ag hm2⟩
theorem fg {w:World} {b g n cap:Nat} {B:List Int} (h:w.ownsRow b 5 1 (.slice (some ⟨g,0,none⟩) n cap) n (aR B)) {j:Nat} (hj:j<n):(w.cell? ⟨g,j,none⟩).isSome=true∧w.frozen? ⟨g,j,none⟩=false:=by
 refine⟨?_,h.frozenAt j⟩;have hl:=h.1;rw[eN]at hl;rw[h.cellAt j (by omega),List.getElem?_eq_getElem (by rw[eN];omega)];rfl
theorem b6.view {ar:Nat} {size:Int} {used:List Ext} {B:List Int} {w:World} {f:List Nat} (h:(b6 ar size used B).on w f) {o l:Nat} (hx:((o:Int),(l:Int))∈used):
  tW size used B∧(0<l∧o+l≤B.length∧B.length≤1048576)∧hasB used ((o:Int),(l:Int))=true∧∃ab g cap,(B.length≤cap∧cap≤maxLen)∧aU (fe ar ab (.slice (some ⟨g,0,none⟩) B.length cap) (bK size used) used B) w f:=by
 obtain⟨hk,ab,bv,hH⟩:=h;obtain⟨⟨h1,h2,h3⟩,h4⟩:=hk.u.ok _ hx;simp only at h1 h2 h3 h4;have hlen:=hk.len;have hz:=hk.s1;refine⟨hk,⟨by omega,by omega,by omega⟩,F6 hk.u hx,ab,?_⟩;have hr:=(af.start hH).row 2 rfl;rcases dr hr with⟨_,h0,_⟩|⟨g,cap,rfl,_,_,k1,k2,_⟩
 ·omega
 ·exact⟨g,cap,⟨k1,k2⟩,hH⟩
open Ty (ax)
theorem xG {size:Int} (h1:size≤1048576):bK size []=dc 0 size:=by
 obtain⟨g1,g2⟩:=tk (at':=0) (to:=size) (Int.le_refl 0) h1;exact oG ⟨g1,fun x=>by rw[g2];simp[kK]⟩
theorem Fw {size:Int} {used:List Ext} {B:List Int} (hk:tW size used B) {n:Int} (hn:eW (bK size used) n=0):
  cK used (dn (bK size used) n).1=none∧cJ size (used++[dn (bK size used) n])∧∀fr',zy (bK size used) fr' (dn (bK size used) n)→bK size (used++[dn (bK size used) n])=fr':=by
 have hf:=hk.u.free hk.s1;obtain⟨A,C,a,h1,h2,h3,h4,h5⟩:=find_spec hf.vs hn;generalize dn (bK size used) n=x at*;have hmem:a∈bK size used:=by rw[h1];simp
 have hpa:=(hf.part hmem).2.2;rw[h1]at hf;obtain⟨k1,k2⟩:=hf.alloc hk.u h2 h3 h4;refine⟨?_,k2,fun fr' hl=> ?_⟩
 ·cases hx:cK used x.1 with
  |none=>rfl
  |some l=>
   exfalso;unfold cK at hx;rw[Option.map_eq_some_iff]at hx;obtain⟨e,he,_⟩:=hx;have e1:=List.mem_of_find?_eq_some he;have e2:e.1=x.1:=by simpa using List.find?_some he
   have e3:=hk.u.len e1;obtain⟨p1,p2,p3⟩:=h2;refine hpa e e1 e3 ?_;unfold meets;omega
 ·refine oG ⟨hl.1,fun y=> ?_⟩;rw[hl.2.1,h1,hf.mem,iE];constructor
  ·rintro⟨⟨q1,q2,q3⟩,q4⟩;exact⟨q1,q2,fun h=>h.elim q3 fun⟨e,he,hy⟩=>q4 (by simp at he;rw[←he];exact hy)⟩
  ·rintro⟨q1,q2,q3⟩;exact⟨⟨q1,q2,fun h=>q3 (.inl h)⟩,fun h=>q3 (.inr ⟨x,by simp,h⟩)⟩
theorem vx {ar:Nat} {size:Int} {used:List Ext} {B:List Int} {w:World} {f:List Nat} (h:(b6 ar size used B).on w f) (n:Int) (hn:eW (bK size used) n≠0):
  Calls Tryz.prog 105 #[.pointer (some ⟨ar,0,none⟩),.int .i64 n] w fun e w'=>e=.returned (.tuple #[.agg #[.int .i64 0,.int .i64 0],.int .i64 (eW (bK size used) n)])∧Mod [] w w':=by
 obtain⟨hk,ab,bv,hH⟩:=h;have hf:=hk.u.free hk.s1;have hm0:=zh ((Mod.refl [] w).alloc (.cells #[.int .i64 0,.int .i64 0] 104));have hx0:=zh (an w (.cells #[.int .i64 0,.int .i64 0] 104));have hS:=af.start hH;have hpa:=zh fun w' (hm:Mod [] w w')=>sI (hm.at (hS.block 0 rfl) (by simp))
 have hal:=zh fun w' (hm:Mod [] w w')=>By (ai.bj (db ab (bK size used) used) (hS.part 1 rfl).choose_spec.1 hm (by simp)) hf.vs n hn
 generalize eW (bK size used) n=E at*;clear hS hH hk hf;go_enter Tryz.func105,Tryz.ntmps105;go_wp2_with fail;refine(hpa.out _ hm0.out).mono ?_;rintro e w1 ⟨rfl,hm1⟩;have hm1H:=zh (hm0.out.ag hm1);have hx1:=zh (hm1.at hx0.out (by simp));clear hm1 hpa hm0 hx0;go_wp2_with fail;refine(hal.out _ hm1H.out).mono ?_;rintro e w2 ⟨rfl,hm2⟩;have hm2H:=zh (hm1H.out.ag hm2);have hx2:=zh (hm2.at hx1.out (by simp));have hc:=ae hx2.out;have hfz:=ay hx2.out;clear hm2 hal hm1H hx1;go_wp2_with fail;have hq:=aq (o:=1) (v:=.int .i64 0) (aq (o:=0) (v:=.int .i64 0) hx2.out);refine bodyPost_ret (gX Tryz.results105 rfl rfl hq Tryz.underlying104 rfl (by kernel_rfl)) rfl ⟨rfl,?_⟩;exact((hm2H.out.setCell (p:=⟨w.heap.size,0,none⟩) (.inr (Nat.le_refl _)) (.int .i64 0)).setCell (p:=⟨w.heap.size,1,none⟩) (.inr (Nat.le_refl _)) (.int .i64 0))
theorem uQ {ar:Nat} {size:Int} {used:List Ext} {B:List Int} {w:World} {f:List Nat} (h:(b6 ar size used B).on w f) (n:Int) (hn:eW (bK size used) n=0) (hul:used.length≤5000):
  Calls Tryz.prog 105 #[.pointer (some ⟨ar,0,none⟩),.int .i64 n] w (bD (b6 ar size (used++[dn (bK size used) n]) B) (.tuple #[.agg #[.int .i64 (dn (bK size used) n).1,.int .i64 (dn (bK size used) n).2],.int .i64 0]) w f):=by
 obtain⟨hk,ab,bv,hH⟩:=h;have hf:=hk.u.free hk.s1;have hl:=hk.u.xH hk.s1;obtain⟨x1,x2,x3⟩:=Fw hk hn;have hS0:=zh ((af.start hH).alloc (.cells #[.int .i64 0,.int .i64 0] 104));have hpa:=zh fun w' (h':af f w (aj w.heap.size (.cells #[.int .i64 0,.int .i64 0] 104 (0,0))::fe ar ab bv (bK size used) used B) w')=>sI (h'.block 1 rfl)
 have hal:=zh fun w' f' (h':(db ab (bK size used) used).on w' f')=>AS h' hf.vs (by omega) n hn x1
 have hx2:=zh x2;have hx3:=zh x3;have hkH:=zh hk;generalize dn (bK size used) n=X at*;obtain⟨xo,xl⟩:=X;clear hH hk hf hl x1 x2 x3 hn;go_enter Tryz.func105,Tryz.ntmps105;go_wp2_with fail;refine(hpa.out _ hS0.out).mono ?_;rintro e w1 ⟨rfl,hm1⟩;have hS1:=zh (hS0.out.then hm1);clear hm1 hpa hS0;go_wp2_with fail;obtain⟨fa,ha,hput⟩:=hS1.out.part 2 rfl;refine(hal.out _ _ ha).mono ?_;rintro e w2 ⟨fr',hless,f',rfl,q1,q2,q3⟩;have hS2:=zh (hput w2 f' _ q1 q2 q3);have hlessH:=zh hless;have hc:=ae (hS2.out.block 0 rfl);have hfz:=ay (hS2.out.block 0 rfl);clear hput q1 q2 q3 hal hS1 ha hless;go_wp2_with fail;have hS3:=((hS2.out.bO 0 rfl 0 (.int .i64 xo)).bO 0 rfl 1 (.int .i64 xl));refine bodyPost_ret (gX Tryz.results105 rfl rfl (hS3.block 0 rfl) Tryz.underlying104 rfl (by kernel_rfl)) rfl ?_;obtain⟨f6,p1,p2,p3⟩:=(hS3.erase 0).done;refine⟨f6,rfl,⟨⟨hkH.out.s1,hx2.out,by simp;omega,hkH.out.len,hkH.out.byte⟩,ab,bv,?_⟩,p2,p3⟩;rw[hx3.out _ hlessH.out];exact p1
theorem DY {F:List Nat} {W w:World} {cs:List ai} (hS:af F W cs w) (size:Int) (h0:0≤size) (h1:size≤1048576):
  Calls Tryz.prog 33 #[.int .i64 size] w fun e w'=>∃ar,e=.returned (.tuple #[.pointer (some ⟨ar,0,none⟩),.int .i64 0])∧af F W (b6 ar size [] (List.replicate size.toNat 0)::cs) w':=by
 obtain⟨n,rfl⟩:=Int.eq_ofNat_of_zero_le h0;have hal:=zh (EJ hS n h0 h1);have hmk:=fun w=>rK n (by omega) w
 have hmkH:=zh hmk;clear hS hmk;go_enter Tryz.func33,Tryz.ntmps33;go_wp2_with fail;refine hal.out.mono ?_;rintro e w1 ⟨ab,rfl,hS1⟩;have hS1H:=zh hS1;clear hS1 hal;obtain⟨w2,hr2,hrow,hm2⟩:=hmkH.out w1;have hrowH:=zh hrow;have hm2H:=zh hm2;have hgt:=hm2.size;clear hm2 hrow hmkH;go_wp2_with fail;go_ret2;have hlen:(List.replicate n (0:Int)).length=n:=by simp
 have hS2:=hS1H.out.add (c:=aT (.slice (some ⟨w1.heap.size,0,none⟩) n n) n 5 1 (aR (List.replicate n 0))) (f:=[w1.heap.size]) hm2H.out ⟨aE hrowH.out (Nat.zero_le _),rfl⟩ (by simp);have hS3:=(hS2.alloc (.cells #[.pointer (some ⟨ab,0,none⟩),.slice (some ⟨w1.heap.size,0,none⟩) n n] 164)).out 2 rfl |>.out 1 rfl;refine⟨_,rfl,?_⟩;refine af.js (c:=b6 w2.heap.size n [] (List.replicate (n:Int).toNat 0)) [_,_,_] hS3 fun g hg=> ?_
 rw[Int.toNat_natCast];refine⟨⟨h1,⟨by simp,List.Pairwise.nil⟩,by simp,by simp,fun b hb=>by rw[List.eq_of_mem_replicate hb];omega⟩,ab,.slice (some ⟨w1.heap.size,0,none⟩) n n,?_⟩;unfold fe;rw[xG h1,hlen];exact hg
end Go.Proofs.YtdehaommhbjakaaGreat
namespace Go.Proofs.YtdehaommhbjakaaGreat.Qt
open RowKit Stg
theorem C9 {x q:Q} (h:kp x q=0) (hx:x.pos):gT q=false∧mG x q=false∧(x.sub q).pos∧q.pos:=by
 unfold kp at h;split at h
 ·cases h
 ·rename_i hn;have h1:gT q=false:=by cases hq:gT q with|false=>rfl|true=>exact absurd (.inl hq) hn
  have h2:mG x q=false:=by cases hq:mG x q with|false=>rfl|true=>exact absurd (.inr hq) hn
  refine⟨h1,h2,?_⟩;simp only[gT,mG,Bool.or_eq_false_iff,decide_eq_false_iff_not]at h1 h2;obtain⟨⟨a1,a2⟩,⟨b1,b2⟩,c1,c2⟩:=hx;simp only[Q.pos,Q.sub];omega
theorem Gd (p:Int) (q l:Q) (b:Nat) (mo:Option Nat) (f:Int→Q) (w:World) (hM:jj w b mo l f) (h:kp (f p) q=0):
  Calls Tryz.prog 109 #[.pointer (some ⟨b,0,none⟩),.int .i64 p,.agg #[.int .i64 q.b,.int .i64 q.o,.int .i64 q.r]] w (Changed (.int .i64 0) b mo l (fS f p ((f p).sub q)) w):=by
 have hM1:=hM.mod ((Mod.refl [] w).alloc (.cells #[.int .i64 q.b,.int .i64 q.o,.int .i64 q.r] 45 (0,0))) (by simp);have HG:=zh (yU p l b mo f _ hM1);have hx:=hM.has p;obtain⟨hn,ho,hap,hqp⟩:=C9 h hx;have hp':=yE (p:=p) hM.has hap;clear h hM1;simp only[mG,Bool.or_eq_false_iff,decide_eq_false_iff_not,Int.not_lt]at ho;obtain⟨⟨o1,o2⟩,o3⟩:=ho;obtain⟨⟨q1,q2⟩,⟨q3,q4⟩,q5,q6⟩:=hqp;obtain⟨⟨x1,x2⟩,⟨x3,x4⟩,x5,x6⟩:=hx;obtain⟨hl,hf,hb,hmap,hne⟩:=hM;have hlb:=aL hb;have hnil:∀w,(binOp .neq 143 (.map mo) (.map none)).run Tryz.prog w=.ok (.bool (!mo.isNone)) w:=fun w=>run_neq_map_nil w _ _ _ mo Tryz.underlying143
 cases mo with
 |none=>
  simp only[Option.isNone_none,Bool.not_true]at hnil;go_enter Tryz.func109,Tryz.ntmps109;go_wp2_with fail;refine HG.out.mono ?_;rintro e w1 ⟨rfl,hm1⟩;have hb1:=hm1.at (aI hb) (by simp);have hq1:=hm1.at (an w _) (by simp);have hcq:=ae hq1;have hm2:=((Mod.refl [] w).alloc (.cells #[.int .i64 q.b,.int .i64 q.o,.int .i64 q.r] 45 (0,0))).ag hm1;have hlt:=hm1.gt;go_wp2_with fail;refine(pq q _).mono ?_;rw[hn];rintro e w3 ⟨rfl,hm3⟩;have hb3:=hm3.at (aI hb1) (by simp);have hcb3:=ae hb3;have hcq3:=ae (hm3.at (aI hq1) (by simp));have hcx3:=ae (hm3.at (an w1 _) (by simp));have hm4:=(hm2.alloc _).ag hm3;clear hm1 hm2 hm3;go_wp2;go_ret;refine⟨none,rfl,hm4.mono (by simp),⟨hl,hp',hb3,?_,by simp⟩,by simp⟩;intro k;have hk:=hmap k;have hpz:=hmap p;unfold fS;split
  ·rw[hpz]at o1 o2 o3⊢;simp only[Q.zero]at o1 o2 o3;simp only[Q.zero,Q.sub,Q.mk.injEq];omega
  ·exact hk
 |some bm=>
  obtain⟨es,c,hbm,hes,hg⟩:=hmap;have hnb:b≠bm:=fun e=>hne (by rw[e])
  have hlbm:=aL hbm;simp only[Option.isNone_some,Bool.not_false]at hnil;go_enter Tryz.func109,Tryz.ntmps109;go_wp2_with fail;refine HG.out.mono ?_;rintro e w1 ⟨rfl,hm1⟩;have hb1:=hm1.at (aI hb) (by simp);have hbm1:=hm1.at (aI hbm) (by simp);have hq1:=hm1.at (an w _) (by simp);have hcq:=ae hq1;have hm2:=((Mod.refl [b,bm] w).alloc (.cells #[.int .i64 q.b,.int .i64 q.o,.int .i64 q.r] 45 (0,0))).ag hm1;have hlt:=hm1.gt;go_wp2_with fail;refine(pq q _).mono ?_;rw[hn];rintro e w3 ⟨rfl,hm3⟩;have hWb:=hm3.at (aI hb1) (by simp);have hWm:=hm3.at (aI hbm1) (by simp);have hWq:=hm3.at (aI hq1) (by simp);have hWx:=hm3.at (an w1 _) (by simp);have hcb3:=ae hWb;have hcq3:=ae hWq;have hcx3:=ae hWx;have hm4:=(hm2.alloc _).ag hm3;clear hm1 hm2 hm3;go_wp2_with fail;clear hcb3 hcq3 hcx3 hcq;have hk1:=GW.cells (S:=[bm]) hWb (by simp;omega);have hk2:=GW.cells (S:=[bm]) hWq (by simp;omega);have hk3:=GW.cells (S:=[bm]) hWx (by have:=aL hbm1;simp;omega);refine bY (fun w'=>∃x:GW [bm] w3,w'=x.1) (fun w'=>Mod [] w3 w') (by kernel_rfl) (by kernel_rfl) (fun _ h=>ah.of (h.mono (by simp))) (Mod.refl _ _).drew ?_;refine sq 21 ?_;refine ph bm es c p (qv ((f p).sub q)) (fun w'=>Mod [bm] w3 w'∧w'.heap[bm]? =some (.map (c9 p (qv ((f p).sub q)) c es).1 (c9 p (qv ((f p).sub q)) c es).2)) rfl Tryz.underlying143 Tryz.underlying3 rfl rfl rfl rfl hes (fun w' h=>h.at hWm (by simp)) (fun w' h=>⟨(h.mono (by simp)).gj (.inl (by simp)) _,ie (h.at hWm (by simp))⟩) (fun w' h=>ah.of h.1) ?_;simp only[Act.put];refine au fun w2 hm2=> ?_
  go_wp2;go_ret;refine⟨some bm,rfl,hm4.then hm2.1 (by simp),⟨hl,hp',hm2.1.at hWb (by simp;omega),gN.put hm2.2 hes hg,hne⟩,?_⟩;intro x hx;exact .inl hx
end Go.Proofs.YtdehaommhbjakaaGreat.Qt
namespace Go.Proofs.YtdehaommhbjakaaGreat.Ty
open RowKit Stg
attribute [local go_sem] Oper.semAt_some
theorem v8 {a b:World} (h:Mod [] a b) {row:Option Nat}:a.grownBy b row:=
 let hb:=h.below;⟨hb.os,hb.tape,hb.output,hb.size,fun k hk _=>hb.block k hk⟩
abbrev Ho:=Int×(Ty×Value)
def enc (x:Ho):Array Value:=#[.int .i64 x.1,.agg #[.int .i64 x.2.1.1,x.2.2]]
end Go.Proofs.YtdehaommhbjakaaGreat.Ty
