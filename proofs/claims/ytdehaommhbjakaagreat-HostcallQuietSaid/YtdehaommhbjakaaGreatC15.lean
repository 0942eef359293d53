/- Joined contracts. No conditions. -/
import Derived.Test.YtdehaommhbjakaaGreatC14
set_option maxHeartbeats 8000000
set_option maxRecDepth 100000
namespace Go.Proofs.YtdehaommhbjakaaGreat
open RowKit Stg
section
variable {P:Program} {ops:Array Oper} {I:World→Prop} {Out:Prop} {Q:Act→World→Prop}
theorem aO (v:Nat→Value) (ob:Obj) (C':Nat→World→Prop) {o:Oper} {rest:List Oper} {C:World→Prop} {a:Act}
  (hv:∀s s',v s=v s'→s=s') (hw:Region.wanted o (yielded ops a.tmps)=true) (he:aY o=true)
  (hrun:∀w,C w→(execOp a.eval o).run P w=.ok (.value (v w.heap.size)) (w.alloc ob)) (hC:∀w,C w→C' w.heap.size (w.alloc ob)) (hI:∀s w,C' s w→I w)
  (h:∀s,aH P ops I Out Q rest (C' s) (a.put o.dst (v s))):aH P ops I Out Q (o::rest) C a:=by
 unfold aH;simp only[hw,he,if_true];refine⟨fun u=>∃s,u=v s,fun u w=>∃s,u=v s∧C' s w,⟨v 0,0,rfl⟩,fun w hc=> ?_,fun u w ⟨s,h1,h2⟩=>⟨⟨s,h1⟩,.inr (hI s w h2)⟩,fun u ⟨s,hu⟩=> ?_⟩
 ·unfold gives;rw[hrun w hc];exact⟨_,rfl,hC w hc⟩
 ·subst hu;have e:(fun w=>∃s',v s=v s'∧C' s' w)=C' s:=by
   funext w;apply propext;constructor
   ·rintro⟨s',h1,h2⟩;rw[hv _ _ h1];exact h2
   ·intro h;exact⟨s,rfl,h⟩
  have h':=h s;rw[←e]at h';exact h'
theorem lq (C':World→Prop) {o:Oper} {rest:List Oper} {C:World→Prop} {a:Act}
  (hw:Region.wanted o (yielded ops a.tmps)=true) (he:aY o=true)
  (hrun:∀w,C w→∃w',(execOp a.eval o).run P w=.ok .skip w'∧C' w') (hI:∀w,C' w→I w)
  (h:aH P ops I Out Q rest C' (a.put o.dst undef)):aH P ops I Out Q (o::rest) C a:=by
 unfold aH;simp only[hw,he,if_true];refine⟨fun u=>u=undef,fun u w=>u=undef∧C' w,⟨undef,rfl⟩,fun w hc=> ?_,fun u w hu=>⟨hu.1,.inr (hI w hu.2)⟩,fun u hu=> ?_⟩
 ·obtain⟨w',hr,h1⟩:=hrun w hc;unfold gives;rw[hr];exact⟨rfl,h1⟩
 ·subst hu;simpa using h
theorem cP (V:Value→Prop) (C':Value→World→Prop) {o:Oper} {rest:List Oper} {C:World→Prop} {a:Act}
  (hw:Region.wanted o (yielded ops a.tmps)=true) (he:aY o=true) (hV:∃v,V v)
  (hrun:∀w,C w→∃v w',(execOp a.eval o).run P w=.ok (.value v) w'∧V v∧C' v w') (hI:∀v w,C' v w→I w)
  (h:∀v,V v→aH P ops I Out Q rest (C' v) (a.put o.dst v)):aH P ops I Out Q (o::rest) C a:=by
 unfold aH;simp only[hw,he,if_true];refine⟨V,fun u w=>V u∧C' u w,hV,fun w hc=> ?_,fun u w h1=>⟨h1.1,.inr (hI u w h1.2)⟩,fun u hu=> ?_⟩
 ·obtain⟨v,w',hr,h1,h2⟩:=hrun w hc;unfold gives;rw[hr];exact⟨h1,h2⟩
 ·have e:(fun w=>V u∧C' u w)=C' u:=by
   funext w;simp[hu]
  have h':=h u hu;rw[←e]at h';exact h'
theorem cD (f:FuncId) (args:Array Value) (V:Value→Prop) (C':Value→World→Prop) {o:Oper} {rest:List Oper} {C:World→Prop} {a:Act} {asz:Array Operand} {ts:Array TypeId}
  (hop:o.op=.call ⟨.value (.func f),asz,ts⟩) (hcall:∀(args:Array Value) w,(callFunc f args).run P w=.ok (.enter f args) w)
  (hw:Region.wanted o (yielded ops a.tmps)=true) (hargs:(asz.toList.map a.eval).toArray=args) (hV:∃v,V v)
  (hc:∀w,C w→Calls P f args w fun e w'=>∃v,e=.returned v∧V v∧C' v w') (hI:∀v w,C' v w→I w)
  (h:∀v,V v→aH P ops I Out Q rest (C' v) (a.put o.dst v)):aH P ops I Out Q (o::rest) C a:=by
 unfold aH;have he:aY o=true:=by simp[aY,hop]
 simp only[hw,he,if_true];refine⟨V,fun u w=>V u∧C' u w,hV,fun w hC=> ?_,fun u w h1=>⟨h1.1,.inr (hI u w h1.2)⟩,fun u hu=> ?_⟩
 ·unfold gives;rw[nw hop rfl hcall w,hargs];exact(hc w hC).mono fun e w' ⟨v,h1,h2,h3⟩=>by subst h1;exact⟨h2,h3⟩
 ·have e:(fun w=>V u∧C' u w)=C' u:=by
   funext w;simp[hu]
  have h':=h u hu;rw[←e]at h';exact h'
end
theorem qU {F:Fence} {n':Nat} {P:Program} (w:World) {ops:Array Oper} {rest:List Oper} {o:Oper} {a:Act} {Q:Exit→Act→World→Prop} (hgd:o.guard=none) (s x:Operand) (t:TypeId)
  (ho:o.op=Op.call {callee:=Callee.builtin Builtin.append,args:=#[s,x],argTypes:=#[t,t]})
  (base:Nat) (e:TypeId) (i:TypeInfo) (z:Value) (size bytes:Nat) (ht:P.underlying t=some (.slice e)) (hi:P.info? e=some i) (hz:i.zero=some z)
  (hsize:i.size=size) (hby:i.bytes=bytes) (hzs:z.cells.size=size) (hsz:0<size)
  (v:Value) (n:Nat) (xs:List Value) (hs:a.eval s=v) (hown:w.ownsRow base e size v n xs)
  (ad:Addr) (m c:Nat) (news:List Value) (hx:a.eval x=.slice (some ad) m c) (hl:news.length=m*size) (hnews:∀j u,news[j]? =some u→w.cell? (ad.add j)=some u) (h1:∀u∈news,u.oneCell'=true)
  (h63:n+m≤maxLen) (hbytes:(n+m)*bytes≤140737488355328) (hb:base≤w.heap.size)
  (h:∀v' w',w'.ownsRow base e size v' (n+m) (xs++news)→w.grownBy w' v.ownBlock→(∀x,v'.ownBlock=some x→v.ownBlock=some x∨w.heap.size≤x)→wpListIn F n' P ops Q rest (a.put o.dst v') w'):wpListIn F n' P ops Q (o::rest) a w:=by
 refine wpListIn_plain hgd fun K hK'=> ?_
 obtain⟨v',w',hrun,h2,h3,h4⟩:=gG (P:=P) w t o.type e i z size bytes ht hi hz hsize hby hzs hsz v n xs (aE hown (Nat.zero_le _)) ad m c news hl hnews h1 h63 hbytes;have h2':w'.ownsRow base e size v' (n+m) (xs++news):=cy h2 fun g hg=>by
  rcases h4 g hg with h|h
  ·exact(hown.lt g h).1
  ·omega
 unfold Oper.wpIn;refine⟨?_,?_⟩
 ·simp[Oper.about,ho,resolve,Target.leads,Sem.run_pure]
 ·rw[Oper.semAt_plain F _ _ (by rw[ho];intro c hc';cases hc')];simp[execOp,ho,resolve,invoke,builtin,hs,hx,hrun,Result.andThen];exact hK' _ _ (h v' w' h2' h3 h4)
section
variable {P:Program} {ops:Array Oper} {I:World→Prop} {Out:Prop} {Q:Act→World→Prop}
theorem kF (C':World→Prop) {o:Oper} {rest:List Oper} {C:World→Prop} {a:Act} {t:TypeId} {m x y:Operand} {mv kv vv:Value} (hop:o.op=.mapUpdate t m x y)
  (hw:Region.wanted o (yielded ops a.tmps)=true) (hm:a.eval m=mv) (hx:a.eval x=kv) (hy:a.eval y=vv)
  (hrun:∀w,C w→∃w',(Instr.mapUpdate t mv kv vv).run P w=.ok () w'∧C' w') (hI:∀w,C' w→I w)
  (h:aH P ops I Out Q rest C' (a.put o.dst undef)):aH P ops I Out Q (o::rest) C a:=by
 refine lq C' hw (by simp[aY,hop]) (fun w hc=> ?_) hI h;obtain⟨w',hr,hc'⟩:=hrun w hc;exact⟨w',by simp[execOp,hop,hm,hx,hy,hr],hc'⟩
theorem rV (C':World→Prop) {o:Oper} {rest:List Oper} {C:World→Prop} {a:Act} {ts:Array TypeId} {d x:Operand} {dv kv:Value} (hop:o.op=.call {callee:=.builtin .delete,args:=#[d,x],argTypes:=ts})
  (hw:Region.wanted o (yielded ops a.tmps)=true) (hd:a.eval d=dv) (hx:a.eval x=kv)
  (hrun:∀w,C w→∃w',(Builtin.delete_ ts o.type #[dv,kv]).run P w=.ok (.tuple #[]) w'∧C' w') (hI:∀w,C' w→I w)
  (h:aH P ops I Out Q rest C' (a.put o.dst (.tuple #[]))):aH P ops I Out Q (o::rest) C a:=by
 refine cP (fun v=>v=.tuple #[]) (fun _ w=>C' w) hw (by simp[aY,hop]) ⟨_,rfl⟩ (fun w hc=> ?_) (fun _=>hI) (fun v hv=>by subst hv;exact h);obtain⟨w',hr,hc'⟩:=hrun w hc;exact⟨_,w',by simp[execOp,hop,resolve,invoke,builtin,hd,hx,hr,Result.andThen],rfl,hc'⟩
end
section
variable {P:Program} {ops:Array Oper} {I:World→Prop} {Out:Prop} {Q:Act→World→Prop}
theorem zV (C':World→Prop) {o:Oper} {C:World→Prop} {a:Act} {t:TypeId} {m x y:Operand} {mv kv vv:Value} (hop:o.op=.mapUpdate t m x y) (hd:o.dst=none) (hl:gH ops=true)
  (hw:Region.wanted o (yielded ops a.tmps)=true) (hm:a.eval m=mv) (hx:a.eval x=kv) (hy:a.eval y=vv)
  (hrun:∀w,C w→∃w',(Instr.mapUpdate t mv kv vv).run P w=.ok () w'∧C' w') (h:∀w,C' w→Q a w):aH P ops I Out Q [o] C a:=by
 unfold aH;have he:aY o=true:=by simp[aY,hop]
 simp only[hw,he,if_true];refine⟨fun u=>u=undef,fun u w'=>u=undef∧C' w',⟨undef,rfl⟩,fun w hc=> ?_,fun u w hu=>⟨hu.1,.inl ⟨by simp,hl⟩⟩,fun u hu=> ?_⟩
 ·obtain⟨w',hr,hc'⟩:=hrun w hc;unfold gives;have hr2:(execOp a.eval o).run P w=.ok .skip w':=by simp[execOp,hop,hm,hx,hy,hr]
  rw[hr2];exact⟨rfl,hc'⟩
 ·subst hu;intro w' ⟨_,hc'⟩;rw[hd];exact h w' hc'
end
end Go.Proofs.YtdehaommhbjakaaGreat
namespace Go.Proofs.YtdehaommhbjakaaGreat.Bw
open RowKit Stg Go.Sort Go.Proofs
theorem E9 (x:Int) (w:World):Calls Tryz.prog 207 #[.int .i64 x] w fun e w'=>e=.returned (.bool false)∧w'=w:=by
 go_enter Tryz.func207,Tryz.ntmps207;go_wp2_with fail;go_ret;exact⟨rfl,rfl⟩
theorem u7 (x y:Int) (w:World):Calls Tryz.prog 198 #[.int .i64 x,.int .i64 y] w fun e w'=>e=.returned (.int .i64 (gz x y))∧w'=w:=by
 have hN:=zh E9;obtain⟨c,hc⟩:∃c,gz x y=c:=⟨_,rfl⟩;rw[hc];have hcH:=zh hc;clear hc;go_enter Tryz.func198,Tryz.ntmps198;go_wp2_with fail;refine(hN.out x w).mono ?_;rintro e w1 ⟨rfl,rfl⟩;go_wp2_with fail;refine(hN.out y _).mono ?_;rintro e w1 ⟨rfl,rfl⟩;have hc:=hcH.out;unfold gz at hc;by_cases h1:x<y
 ·rw[if_pos h1]at hc;subst hc;go_wp2_with fail;go_ret;exact⟨rfl,rfl⟩
 ·rw[if_neg h1]at hc;by_cases h2:y<x
  ·rw[if_pos h2]at hc;subst hc;go_wp2_with fail;go_ret;exact⟨rfl,rfl⟩
  ·rw[if_neg h2]at hc;subst hc;go_wp2_with fail;go_ret;exact⟨rfl,rfl⟩
theorem Hc (g:Nat) (x y:Int) (w:World) (h:w.heap[g]? =some (.cells #[.int .i64 x,.int .i64 y] 3 (0,0))):Calls Tryz.prog 197 #[.slice (some ⟨g,0,none⟩) 2 2] w fun e w'=>e=.returned (.int .i64 (if x≠0 then x else y))∧w'=w:=by
 obtain⟨c,hc⟩:∃c,(if x≠0 then x else y)=c:=⟨_,rfl⟩;rw[hc];have hcH:=zh hc;have hb:=ae h;clear hc;go_enter Tryz.func197,Tryz.ntmps197;go_wp2_with fail;refine wp_loop_rounds 3 ?_;rw[rounds_succ];have hc:=hcH.out;by_cases h1:x=0
 ·subst h1;rw[if_neg (by simp)]at hc;subst hc;go_wp2_with fail;rw[rounds_succ];by_cases h2:y=0
  ·subst h2;go_wp2_with fail;rw[rounds_succ];go_wp2_with fail;go_ret;exact⟨rfl,rfl⟩
  ·go_wp2_with fail;go_ret;exact⟨rfl,rfl⟩
 ·rw[if_pos h1]at hc;subst hc;go_wp2_with fail;go_ret;exact⟨rfl,rfl⟩
def GB (W w:World):Prop:=∃q os,w=grow (W.drewN q) os
theorem GB.refl (W:World):GB W W:=⟨0,#[],by simp[grow,World.drewN]⟩
theorem GB.drew {W w:World} (h:GB W w):GB W w.drew:=by
 obtain⟨q,os,rfl⟩:=h;exact⟨q+1,os,rfl⟩
theorem GB.alloc {W w:World} (h:GB W w) (o:Obj):GB W (w.alloc o):=by
 obtain⟨q,os,rfl⟩:=h;exact⟨q,os++#[o],by rw[alloc_eq_grow,grow_grow]⟩
theorem GB.trans {W W1 w:World} (h:GB W W1) (k:GB W1 w):GB W w:=by
 obtain⟨q,os,rfl⟩:=h;obtain⟨q',os',rfl⟩:=k;refine⟨q+q',os++os',?_⟩;show grow (grow ((W.drewN q).drewN q') os) os'=_;rw[grow_grow,World.drewN_drewN]
theorem GB.mod {W w:World} (h:GB W w):Mod [] W w:=by
 obtain⟨q,os,rfl⟩:=h;exact⟨rfl,rfl,rfl,by simp[grow,World.drewN],fun k hk _=>by rw[heap_grow_old _ _ (by simpa[World.drewN]using hk)];rfl⟩
theorem GQ (x y:ak) (w:World):Calls Tryz.prog 196 #[bv x,bv y] w fun e w'=>e=.returned (.int .i64 (cf x y))∧GB w w':=by
 obtain⟨⟨xo,xh⟩,xm,xc⟩:=x;obtain⟨⟨yo,yh⟩,ym,yc⟩:=y;unfold bv cf;have hcmp1:=zh (u7 xo yo);have hcmp2:=zh (u7 xh yh);have hor:=zh fun g w h=>Hc g (gz xo yo) (gz xh yh) w h
 show Calls _ _ _ _ fun e w'=>e=.returned (.int .i64 (if gz xo yo≠0 then gz xo yo else gz xh yh))∧GB w w'
 generalize(if gz xo yo≠0 then gz xo yo else gz xh yh)=c at*;generalize gz xo yo=c1 at*;generalize gz xh yh=c2 at*;have b0:=aI (o:=.cells #[.int .i64 yo,.int .i64 yh,.int .i64 ym,.int .i64 yc] 222 (0,0)) (an w (.cells #[.int .i64 xo,.int .i64 xh,.int .i64 xm,.int .i64 xc] 222 (0,0)));have b1:=an (w.alloc (.cells #[.int .i64 xo,.int .i64 xh,.int .i64 xm,.int .i64 xc] 222 (0,0))) (.cells #[.int .i64 yo,.int .i64 yh,.int .i64 ym,.int .i64 yc] 222 (0,0));rw[World.size_alloc]at b1;have hg:=zh (((GB.refl w).alloc (.cells #[.int .i64 xo,.int .i64 xh,.int .i64 xm,.int .i64 xc] 222 (0,0))).alloc (.cells #[.int .i64 yo,.int .i64 yh,.int .i64 ym,.int .i64 yc] 222 (0,0)));go_enter Tryz.func196,Tryz.ntmps196;go_wp2_with fail;generalize(w.alloc (.cells #[.int .i64 xo,.int .i64 xh,.int .i64 xm,.int .i64 xc] 222 (0,0))).alloc (.cells #[.int .i64 yo,.int .i64 yh,.int .i64 ym,.int .i64 yc] 222 (0,0))=W at*;have k0:=GW.cells (S:=[]) b0 (by simp);have k1:=GW.cells (S:=[]) b1 (by simp);refine bY (fun w'=>∃x:GW [] W,w'=x.1) (fun w'=>GB W w') (by kernel_rfl) (by kernel_rfl) (fun _ h=>ah.of h.mod) (GB.refl _).drew ?_;refine sq 4 ?_;refine dL 198 _ (.int .i64 c1) (fun w'=>GB W w') rfl Tryz.call198 rfl rfl (fun w' h=>(hcmp1.out _).mono fun e w'' ⟨he,hw⟩=>⟨he,by rw[hw];exact h⟩) (fun _ h=>ah.of h.mod) ?_;refine sq 4 ?_;refine dL 198 _ (.int .i64 c2) (fun w'=>GB W w') rfl Tryz.call198 rfl rfl (fun w' h=>(hcmp2.out _).mono fun e w'' ⟨he,hw⟩=>⟨he,by rw[hw];exact h⟩) (fun _ h=>ah.of h.mod) ?_;simp only[Act.put,sA,sB,sC];refine aO (fun s=>.slice (some ⟨s,0,none⟩) 2 2) (.cells #[.int .i64 c1,.int .i64 c2] 3 (0,0)) (fun s w'=>GB W w'∧w'.heap[s]? =some (.cells #[.int .i64 c1,.int .i64 c2] 3 (0,0))) (by intro s s' h;simpa using h) rfl rfl (fun w' hw=> ?_) (fun w' hw=>⟨hw.alloc _,an _ _⟩) (fun s w' h=>ah.of h.1.mod) (fun s=> ?_)
 ·kernel_rfl
 simp only[Act.put,sA,sB,sC];refine dL 197 _ (.int .i64 c) (fun w'=>GB W w') rfl Tryz.call197 rfl rfl (fun w' h=>(hor.out _ _ h.2).mono fun e w'' ⟨he,hw⟩=>⟨he,by rw[hw];exact h.1⟩) (fun _ h=>ah.of h.mod) ?_;refine sq 1 ?_;refine au fun w9 hw9=> ?_
 go_wp2_with fail;go_ret;exact⟨rfl,hg.out.trans hw9⟩
theorem EC (aQ off size:Nat) (w:World):CmpLays Tryz.prog 196 #[] cZ 4 cf aQ off size w:=fun _ _ _ _ x y=>GQ x y _
end Go.Proofs.YtdehaommhbjakaaGreat.Bw
namespace Go.Proofs.YtdehaommhbjakaaGreat.Bw
open Go Go.Shelf
def DP:Go.Shelf.Ren:=⟨fun|6=>195|15=>206|14=>205|28=>217|29=>218|20=>209|21=>210|22=>211|23=>212|24=>213|25=>214|26=>215|27=>216|46=>219|47=>220|48=>221|49=>222|50=>223|57=>224|n=>n,fun|22=>124|24=>222|25=>304|3=>3|39=>277|0=>0|53=>43|55=>31|4=>4|46=>314|45=>313|50=>78|5=>5|9=>9|66=>320|70=>323|76=>325|77=>117|n=>n,fun|n=>n⟩
theorem zm:Go.Proofs.SlLaysF0.n6 Tryz.prog DP:={
 mixed:=by kernel_rfl
 f6:=⟨Tryz.f195.name,by decide,Tryz.func195.trans (congrArg some (by kernel_rfl))⟩
 f14:=⟨Tryz.f205.name,by decide,Tryz.func205.trans (congrArg some (by kernel_rfl))⟩
 f15:=Tryz.func206.trans (congrArg some (by kernel_rfl))
 f20:=⟨Tryz.f209.name,by decide,Tryz.func209.trans (congrArg some (by kernel_rfl))⟩
 f21:=⟨Tryz.f210.name,by decide,Tryz.func210.trans (congrArg some (by kernel_rfl))⟩
 f22:=⟨Tryz.f211.name,by decide,Tryz.func211.trans (congrArg some (by kernel_rfl))⟩
 f23:=⟨Tryz.f212.name,by decide,Tryz.func212.trans (congrArg some (by kernel_rfl))⟩
 f24:=⟨Tryz.f213.name,by decide,Tryz.func213.trans (congrArg some (by kernel_rfl))⟩
 f25:=⟨Tryz.f214.name,by decide,Tryz.func214.trans (congrArg some (by kernel_rfl))⟩
 f26:=⟨Tryz.f215.name,by decide,Tryz.func215.trans (congrArg some (by kernel_rfl))⟩
 f27:=⟨Tryz.f216.name,by decide,Tryz.func216.trans (congrArg some (by kernel_rfl))⟩
 f28:=Tryz.func217.trans (congrArg some (by kernel_rfl))
 f29:=Tryz.func218.trans (congrArg some (by kernel_rfl))
 f46:=⟨Tryz.f219.name,by decide,Tryz.func219.trans (congrArg some (by kernel_rfl))⟩
 f47:=Tryz.func220.trans (congrArg some (by kernel_rfl))
 f48:=Tryz.func221.trans (congrArg some (by kernel_rfl))
 f49:=⟨Tryz.f222.name,by decide,Tryz.func222.trans (congrArg some (by kernel_rfl))⟩
 f50:=⟨Tryz.f223.name,by decide,Tryz.func223.trans (congrArg some (by kernel_rfl))⟩
 f57:=⟨Tryz.f224.name,by decide,Tryz.func224.trans (congrArg some (by kernel_rfl))⟩
 t0:=Tryz.underlying0
 a0:=Tryz.isAgg0
 z0:=Tryz.sizeOf0
 v0:=Tryz.zeroValue0
 t3:=Tryz.underlying3
 a3:=Tryz.isAgg3
 z3:=Tryz.sizeOf3
 v3:=Tryz.zeroValue3
 t4:=Tryz.underlying4
 a4:=Tryz.isAgg4
 z4:=Tryz.sizeOf4
 v4:=Tryz.zeroValue4
 t5:=Tryz.underlying5
 a5:=Tryz.isAgg5
 z5:=Tryz.sizeOf5
 v5:=Tryz.zeroValue5
 t9:=Tryz.underlying9
 a9:=Tryz.isAgg9
 z9:=Tryz.sizeOf9
 v9:=Tryz.zeroValue9
 t22:=Tryz.underlying124
 a22:=Tryz.isAgg124
 z22:=Tryz.sizeOf124
 v22:=Tryz.zeroValue124
 t25:=Tryz.underlying304
 a25:=Tryz.isAgg304
 z25:=Tryz.sizeOf304
 v25:=Tryz.zeroValue304
 t39:=Tryz.underlying277
 a39:=Tryz.isAgg277
 z39:=Tryz.sizeOf277
 v39:=Tryz.zeroValue277
 t45:=Tryz.underlying313
 a45:=Tryz.isAgg313
 z45:=Tryz.sizeOf313
 v45:=Tryz.zeroValue313
 t46:=Tryz.underlying314
 a46:=Tryz.isAgg314
 z46:=Tryz.sizeOf314
 v46:=Tryz.zeroValue314
 t50:=Tryz.underlying78
 a50:=Tryz.isAgg78
 z50:=Tryz.sizeOf78
 v50:=Tryz.zeroValue78
 t53:=Tryz.underlying43
 a53:=Tryz.isAgg43
 z53:=Tryz.sizeOf43
 v53:=Tryz.zeroValue43
 t55:=Tryz.underlying31
 a55:=Tryz.isAgg31
 z55:=Tryz.sizeOf31
 v55:=Tryz.zeroValue31
 t66:=Tryz.underlying320
 a66:=Tryz.isAgg320
 z66:=Tryz.sizeOf320
 v66:=Tryz.zeroValue320
 t70:=Tryz.underlying323
 a70:=Tryz.isAgg323
 z70:=Tryz.sizeOf323
 v70:=Tryz.zeroValue323
 t76:=Tryz.underlying325
 a76:=Tryz.isAgg325
 z76:=Tryz.sizeOf325
 v76:=Tryz.zeroValue325
 t77:=Tryz.underlying117
 a77:=Tryz.isAgg117
 z77:=Tryz.sizeOf117
 v77:=Tryz.zeroValue117}
end Go.Proofs.YtdehaommhbjakaaGreat.Bw
namespace Go.Proofs.YtdehaommhbjakaaGreat.Bw
open RowKit Stg
theorem E1:(Tryz.prog.info? 222).map (fun i=>(i.zero,i.size,i.bytes))=some (some (bv b0),4,32):=by kernel_rfl
theorem eT (b o j:Nat):(⟨b,o,none⟩:Addr).add j=⟨b,o+j,none⟩:=by unfold Addr.add;split<;>simp_all
theorem zd (w:World) (l:List Value) (T:TypeId) (cs:Array Value) (hc:cs.toList=l):∀j u,l[j]? =some u→(w.alloc (.cells cs T)).cell? ((⟨w.heap.size,0,none⟩:Addr).add j)=some u:=by
 intro j u hu;rw[eT,Nat.zero_add,ae (an w (.cells cs T))];rw[←hc,Array.getElem?_toList]at hu;exact hu
end Go.Proofs.YtdehaommhbjakaaGreat.Bw
namespace Go.Proofs.YtdehaommhbjakaaGreat.Bw
open RowKit Stg Go.Sort Go.Proofs
attribute [local go_sem] Oper.semAt_some
theorem Gc {w:World} {base:Nat} {v:Value} {L:List ak} (h:w.ownsRow base 222 4 v L.length (flat cZ L)) (hn:(L.map (·.1)).Nodup) (hl:L.length≤1000000):
  Calls Tryz.prog 195 #[v,.func (.func 196) #[] #[]] w fun e w'=>e=.returned (.tuple #[])∧∃L',di L'∧L'.Perm L∧w'.ownsRow base 222 4 v L.length (flat cZ L')∧Mod v.ownBlock.toList w w':=by
 rcases dr h with⟨rfl,h0,_⟩|⟨g,cap,rfl,_,hg,_⟩
 ·have hL:L=[]:=List.eq_nil_of_length_eq_zero h0;subst hL;have hcon:=AnyF.slices_SortFunc_none zm none 0 (.func (.func 196) #[] #[]) w;change Calls Tryz.prog 195 _ _ _ at hcon;exact hcon.mono fun e w' ⟨he,hw⟩=>⟨he,[],List.Pairwise.nil,List.Perm.refl _,by rw[hw];exact h,by rw[hw];exact Mod.refl _ _⟩
 ·have eg:∀args w,(callFunc 196 args).run Tryz.prog w=.ok (.enter 196 args) w:=enters_of Tryz.func196 (by kernel_rfl) rfl;have hcon:=AnyQ.slices_SortFunc zm 4 Tryz.isAgg222 Tryz.sizeOf222 cZ nQ (fun x v hv=>by simp[cZ]at hv;rcases hv with rfl|rfl|rfl|rfl<;>rfl) cf Gt 196 #[] g 0 cap L.toArray w eg (EC g 0 L.toArray.size w) (C4 h rfl) hg (by simp;omega);change Calls Tryz.prog 195 _ _ _ at hcon;simp only[List.size_toArray]at hcon;refine hcon.mono fun e w' ⟨he,d',n,os,hp,hs,hw⟩=>⟨he,d'.toList,?_⟩
  obtain⟨s1,s2,s3⟩:=BH (d:=L.toArray) (d':=d') (by simpa using hn) (by simpa using hp) (by simpa using hs);obtain⟨o1,o2⟩:=BT h d' (by simpa using s3) n os;exact⟨s1,by simpa using s2,by rw[hw];exact o1,by rw[hw];exact o2⟩
def tH (w:World) (g:Nat) (lb:Array Value) (p:ak→Bool):Prop:=∀x W,Mod [] w W→Calls Tryz.prog g (#[bv x]++lb) W fun e W'=>e=.returned (.bool (p x))∧Mod [] W W'
theorem KeepsOthers.walks {A B:World} (h:KeepsOthers A B):KeepsWalks A B:=⟨h.size,fun k o hk ho=>h.same k o hk (Obj.not_cells_of_walk ho)⟩
theorem Mod.others {A B:World} (h:Mod [] A B):KeepsOthers A B:=⟨h.size,fun _ _ hk _=>h.at hk (by simp)⟩
theorem Hb {n₀ B:Nat} (hn:n₀≤B) (W:World) (l:Nat) (o o':Obj) (hl:B≤l) (h:W.heap[l]? =some o) (_:o.isCells=false) (hw:o.isWalk=false):tZ n₀ W (W.putObj l o'):=by
 refine⟨⟨rfl,rfl,rfl,by simp[World.putObj],fun k hk=>World.putObj_heap_other (by omega)⟩,⟨by simp[World.putObj],fun k u hk hu=> ?_⟩⟩;by_cases e:k=l
 ·subst e;rw[h]at hk;cases hk;rw[hw]at hu;cases hu
 ·exact(World.putObj_heap_other (by omega)).trans hk
theorem FF {w:World} {b:Nat} {m1 m2:Value} {bs L:List ak} (hb:w.heap[b]? =some (.cells #[m1,m2] 159 (0,0))) (hM:jB w m1 bs) (hp:bs.Perm L) (hS:di L) (hlen:L.length≤1000000) {g:Nat} {lb:Array Value} {p:ak→Bool}
  (hJ:tH w g lb p) (eg:∀args w,(callFunc g args).run Tryz.prog w=.ok (.enter g args) w):
  Calls Tryz.prog 185 #[.pointer (some ⟨b,0,none⟩),.func (.func g) #[] lb] w fun e w'=>∃v,e=.returned v∧w'.ownsRow w.heap.size 222 4 v (L.filter p).length (flat cZ (L.filter p))∧Mod [] w w':=by
 obtain⟨i5,hi5,hz0,hz1,hz2⟩:=info_parts E1;have hbl:=hp.length_eq;have hfin:∀ys L':List ak,ys.Perm bs→di L'→L'.Perm (ys.filter p)→L'=L.filter p:=fun ys L' h1 h2 h3=>h2.unique (hS.filter p) (h3.trans ((h1.trans hp).filter p))
 have hnod:∀ys:List ak,ys.Perm bs→((ys.filter p).map (·.1)).Nodup:=fun ys h1=>by
  have h2:=(((h1.trans hp).filter p).map (·.1)).nodup_iff;exact h2.2 (hS.filter p).nodup
 have hfinH:=zh hfin;have hnodH:=zh hnod;have hJH:=zh hJ;have hMlt:=zh hM.lt;have hMH:=zh fun w' (h:Mod [] w w')=>hM.bj (w':=w') fun mb hmb=>h.block mb (hMlt.out mb hmb) (by simp)
 have hmv:∃m,m1=.map m:=by rcases hM with⟨rfl,_⟩|⟨mb,rfl,_⟩<;>exact⟨_,rfl⟩
 obtain⟨m,rfl⟩:=hmv;have hbH:=zh (ae hb);have hfr:=ay hb;clear hfin hnod hJ hM hp hS;refine(callsIn_wide (n:=5)).1 ?_;refine callsIn_of_wp_marks Tryz.func185 rfl trivial ?_ rfl;simp only[Tryz.ntmps185,List.size_toArray,List.length_cons,List.length_nil,Nat.reduceAdd,Nat.reduceSub,Array.replicate_succ,Array.replicate_zero,List.push_toArray,List.append_toArray,List.nil_append,List.cons_append];have hm0:=((Mod.refl [] w).alloc (.cells #[.func (.func g) #[] lb] 292)).alloc (.cells #[.slice none 0 0] 124);have hcb:=ae (hm0.at hb (by simp))
 gi_wp2_with fail
 refine⟨trivial,(callsIn_wide.2 (AG (.map m) ⟨_,rfl⟩ _)).mono ?_⟩;rintro e w4 ⟨rfl,rfl⟩;gi_wp2_with fail;have hm1:=hm0.alloc (.cells #[.map m] 157);have z1:(w.alloc (.cells #[.func (.func g) #[] lb] 292)).heap.size=w.heap.size+1:=by simp
 have z2:((w.alloc (.cells #[.func (.func g) #[] lb] 292)).alloc (.cells #[.slice none 0 0] 124)).heap.size=w.heap.size+2:=by simp
 have b0:Boxed _ w.heap.size 292 (.func (.func g) #[] lb):=aI (o:=.cells #[.map m] 157) (aI (o:=.cells #[.slice none 0 0] 124) (an w (.cells #[.func (.func g) #[] lb] 292)));have b1:Boxed _ (w.heap.size+1) 124 (.slice none 0 0):=z1▸aI (o:=.cells #[.map m] 157) (an (w.alloc (.cells #[.func (.func g) #[] lb] 292)) (.cells #[.slice none 0 0] 124));have b2:=an ((w.alloc (.cells #[.func (.func g) #[] lb] 292)).alloc (.cells #[.slice none 0 0] 124)) (.cells #[.map m] 157);rw[z2]at b2;have z3:(((w.alloc (.cells #[.func (.func g) #[] lb] 292)).alloc (.cells #[.slice none 0 0] 124)).alloc (.cells #[.map m] 157)).heap.size=w.heap.size+3:=by simp
 have hMW:=hMH.out _ hm1;have hB0:=hm1.below;clear z1 z2 hm0 hm1 hcb hb hMH hfr hbH;generalize((w.alloc (.cells #[.func (.func g) #[] lb] 292)).alloc (.cells #[.slice none 0 0] 124)).alloc (.cells #[.map m] 157)=W0 at*;generalize hq:w.heap.size=q at*;have hst:=AH 4 (by omega) (q+2) q W0 (by omega) hMW hMlt.out b2;refine zI rfl (by omega) (gf:=204) (lb:=#[.pointer (some ⟨q+2,0,none⟩)]) rfl trivial (enters_of Tryz.func204 (by kernel_rfl) rfl) hst (RowKit.Below.refl _ _) (fun _=>rfl)
  (fun h k=>⟨h.1.trans k.1,h.2.trans k.2⟩) (fun W l o o' hl=>Hb (by omega) W l o o' hl)
  (fun(pre:List ak) W=>(∃v,Boxed W (q+1) 124 v∧W.ownsRow q 222 4 v (pre.filter p).length (flat cZ (pre.filter p))∧True)∧(Boxed W q 292 (.func (.func g) #[] lb)∧RowKit.Below q w W)) (fun _ _ _=>False)
  (OwnFrom.and (Own.from (holdsRow_own q (q+1) 124 222 4 (fun(pre:List ak)=>(pre.filter p).length) (fun(pre:List ak)=>flat cZ (pre.filter p)) (fun _ _=>True)) _) (OwnFrom.and (Own.from (boxed_own q 292 (fun(_:List ak)=>.func (.func g) #[] lb)) _) (ownFrom_below (by omega) (by omega))))
  (fun _=>ownFrom_pure _ _) ⟨⟨_,b1,World.ownsRow_nil _ _ _ _,trivial⟩,b0,hB0⟩
  (fun T x r=>(T.setIfInBounds 14 (bv x)).setIfInBounds 6 (.pointer (some ⟨r,0,none⟩)))
  (fun _ x r W=>W.heap[r]? =some (.cells #[.int .i64 x.1.1,.int .i64 x.1.2,.int .i64 x.2.1,.int .i64 x.2.2] 222 (0,0)))
  ?hax ?assign ?body ?done ?stop
 case hax=>
  rintro pre x r _ A B row h1 hg hr;exact(hg.block r (aL h1) (fun e'=>by obtain⟨_,o,ho,hc⟩:=hr r e'.symm;rw[h1]at ho;cases ho;cases hc)).trans h1
 case assign=>
  rintro l pre ⟨⟨xo,xh⟩,xm,xc⟩ W K ⟨⟨v,hv,hrow, -⟩,hv0,hB⟩-hK;have hKH:=zh hK;clear hK hst;unfold bv
  gi_wp2_with fail
  have hbx:=an W (.cells #[.int .i64 xo,.int .i64 xh,.int .i64 xm,.int .i64 xc] 222 (0,0));have hqW:=hv0.lt;have hBW:=(RowKit.Below.refl q W).alloc (by omega) (.cells #[.int .i64 xo,.int .i64 xh,.int .i64 xm,.int .i64 xc] 222 (0,0));exact hKH.out W.heap.size _ ((KeepsOthers.alloc W _).from _) ⟨hBW,KeepsWalks.alloc W _⟩ ⟨⟨v,hv.alloc _,hrow.alloc _,trivial⟩,hv0.alloc _,hB.trans hBW⟩ hbx
 case body=>
  rintro l pre ⟨⟨xo,xh⟩,xm,xc⟩ r W ⟨⟨v,hv,hrow, -⟩,hv0,hB⟩ hr hlen;simp only at hr;have hmW:Mod [] w W:=Mod.lB (by rw[hq];exact hB);have hJx:=hJH.out ((xo,xh),xm,xc) W hmW;have hpl:(pre.filter p).length≤pre.length:=List.length_filter_le _ _;have hc1:=hv.cell;have hc0:=hv0.cell;have hcr:=ae hr;have hvH:=zh hv;have hv0H:=zh hv0;have hBH:=zh hB;have hrH:=zh hr;have hrowH:=zh hrow;have hqW:=hv.lt;unfold bv at hJx;unfold bv;clear hst b0 b1 b2 hB0 hv hv0 hB hr hrow hMW
  gi_wp2_with fail
  refine⟨trivial,(callsIn_wide.2 hJx).mono ?_⟩;rintro e w5 ⟨rfl,hm5⟩;have hv5:Boxed w5 (q+1) 124 v:=hm5.at hvH.out (by simp);have hv05:Boxed w5 q 292 (.func (.func g) #[] lb):=hm5.at hv0H.out (by simp);have hr5:=hm5.at hrH.out (by simp);have hrow5:=aG hrowH.out hm5 (by simp);have hko:=Mod.others hm5;have hq5:q+1<w5.heap.size:=hv5.lt;have hB5:=hBH.out.trans (hm5.below.mono (by omega));have hkB5:=zh (hm5.below.mono (show q≤W.heap.size by omega));have hkoH:=zh hko;have hB5H:=zh hB5;clear hc1 hc0 hcr hJx hm5 hB5 hko
  cases hpx:p ((xo,xh),xm,xc)with
  |false=>
   have hfl:(pre++[((xo,xh),xm,xc)]).filter p=pre.filter p:=by rw[List.filter_append];simp[hpx]
   have hflH:=zh hfl;have hv5H:=zh hv5;have hv05H:=zh hv05;have hrow5H:=zh hrow5;clear hfl hpx hv5 hv05 hrow5 hr5
   gi_wp2_with fail
   refine⟨hkoH.out.from _,⟨hkB5.out,hkoH.out.walks⟩,⟨v,hv5H.out,?_,trivial⟩,hv05H.out,hB5H.out⟩;rw[hflH.out];exact hrow5H.out
  |true=>
   have hfl:(pre++[((xo,xh),xm,xc)]).filter p=pre.filter p++[((xo,xh),xm,xc)]:=by rw[List.filter_append];simp[hpx]
   have hflH:=zh hfl;have hnw:=zd w5 (cZ ((xo,xh),xm,xc)) 222 #[.int .i64 xo,.int .i64 xh,.int .i64 xm,.int .i64 xc] rfl;have hnwH:=zh hnw;have hc1:=hv5.cell;have hcr:=ae hr5;have hb1:(pre.filter p).length+1≤maxLen:=by unfold maxLen;omega
   have hb2:((pre.filter p).length+1)*32≤140737488355328:=by omega
   have hv5H:=zh hv5;have hv05H:=zh hv05;have hrow5H:=zh hrow5;clear hfl hpx hv5 hv05 hrow5 hr5 hnw
   gi_wp2_with (gi_at_builtin;refine qU _ rfl _ _ 124 rfl q 222 i5 (bv b0) 4 32 Tryz.underlying124 hi5 hz0 hz1 hz2 rfl (by decide) v (pre.filter p).length _ rfl (hrow5H.out.alloc _) ⟨w5.heap.size,0,none⟩ 1 1 (cZ ((xo,xh),xm,xc)) rfl rfl hnwH.out (by simp[cZ,Value.oneCell']) hb1 hb2 (by simp;omega) ?_;intro v' w7 hown' hgrow hfr;obtain⟨g7,c7,rfl⟩:=ownsRow_succ hown';obtain⟨k1,k2,k3,k4,k5⟩:=hv5H.out.appended (by decide) hrow5H.out (by omega) (by omega) hown' hgrow;have hk1c:=k1.cell;have hk1f:=k1.frozen;have hgrowH:=zh hgrow;have k2H:=zh k2;have k3H:=zh k3;have k4H:=zh k4;have k5H:=zh k5;clear k1 k2 k3 k4 k5 hgrow hfr)
   refine⟨(hkoH.out.trans k4H.out).from _,⟨hkB5.out.trans k5H.out,(hkoH.out.trans k4H.out).walks⟩,⟨_,k2H.out,?_,trivial⟩,?_,hB5H.out.trans k5H.out⟩
   ·rw[hflH.out,List.length_append,lY,mg];exact k3H.out
   ·exact((hv05H.out.alloc _).kept hgrowH.out (hv05H.out.not_row (by decide) hrow5H.out)).other (by omega) _
 case done=>
  rintro D ys W hD hys ⟨⟨v,hv,hrow, -⟩,hv0,hB⟩ hK;have hc:=hv.cell;have hcf:=hv.frozen;obtain⟨va,vl,vc,rfl⟩:∃a l c,v=.slice a l c:=by
   rcases dr hrow with⟨rfl,_⟩|⟨_,_,rfl,_⟩<;>exact⟨_,_,_,rfl⟩
  have hsort:=Gc hrow (hnodH.out ys hys) (by have h1:=hys.length_eq;have h2:=List.length_filter_le p ys;omega);have hne:=hv.not_row (by decide) hrow;have hneH:=zh hne;have hvH:=zh hv;have hBH:=zh hB;have hrowH:=zh hrow;clear hst hMW b0 b1 b2 hB0 hv hrow hv0 hB hne
  gi_wp2_with fail
  refine⟨trivial,(callsIn_wide.2 hsort).mono ?_⟩;rintro e w5 ⟨rfl,L',hs1,hs2,hr5,hm5⟩;have hL':=hfinH.out ys L' hys hs1 hs2;subst hL';have hv5:Boxed w5 (q+1) 124 (.slice va vl vc):=hm5.at hvH.out (by have:=hneH.out;simpa using fun e=>this e.symm);have hK5:=hm5.at hK (by
   intro hx;rcases dr hrowH.out with⟨e',_,_⟩|⟨g',cap',e',_,_⟩
   ·cases e';simp[Value.ownBlock]at hx
   ·cases e';simp[Value.ownBlock]at hx;have h6:=hrowH.out.2;rcases h6 with⟨h6,_⟩|⟨g2,c2,cur,h6,_,h7,_⟩
    ·cases h6
    ·cases h6;rw[←hx,hK]at h7;cases h7)
  have hB5:=hBH.out.trans (show RowKit.Below q W w5 from⟨hm5.os,hm5.tape,hm5.output,hm5.size,fun k hk=>hm5.block k (Nat.lt_of_lt_of_le hk (by rw[←hq];exact hBH.out.size)) (by
   intro hx;rcases dr hrowH.out with⟨e',_,_⟩|⟨g',cap',e',hg',_⟩
   ·cases e';simp[Value.ownBlock]at hx
   ·cases e';simp[Value.ownBlock]at hx;omega)⟩)
  have hc5:=hv5.cell;have hlen5:(L.filter p).length=(ys.filter p).length:=hs2.length_eq;rw[←hlen5]at hr5;have hr5H:=zh hr5;have hB5H:=zh hB5;clear hc hcf hneH hrowH hm5 hr5 hB5 hs1 hs2 hK hvH hsort
  gi_wp2_with fail
  refine⟨by simp,.inl ⟨_,_,rfl,run_takeDeferred hK5,?_⟩⟩;have hr4:=ownsRow_putObj hr5H.out (.deferred none) hK5 rfl;have hB4:=hB5H.out.trans (belowK_b (w:=w) (by omega) w5 D _ (.deferred none) (by omega) hK5 rfl rfl);refine⟨.slice va vl vc,?_,_,rfl,by rw[hq];exact hr4,Mod.lB (by rw[hq];exact hB4)⟩;simp[results,Tryz.results185,asAddr,go_sem]
 case stop=>
  rintro D c pre W _ hp h _;exact absurd h (by simp)
end Go.Proofs.YtdehaommhbjakaaGreat.Bw
