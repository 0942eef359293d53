/- Joined contracts. No conditions. -/
import Derived.WalkKit
import Derived.OwnWalkIn
import Derived.TacticsInMore
import Derived.Test.YteidpgdfocjdbaaGreatProg
import Derived.Shelf.SlSortCmp.WholeK
import Derived.Shelf.SlSortCmp.NoneTotal
import Derived.Test.YteidpgdfocjdbaaGreatCS
import Derived.Test.YteidpgdfocjdbaaGreatC01
import Derived.Test.YteidpgdfocjdbaaGreatC06
import Derived.Test.YteidpgdfocjdbaaGreatC13
import Derived.Test.YteidpgdfocjdbaaGreatC14
import Derived.Test.YteidpgdfocjdbaaGreatC15
set_option maxHeartbeats 8000000
set_option maxRecDepth 100000
namespace Go.Proofs.YteidpgdfocjdbaaGreat
open Go Go.RowKit Go.Stg
section
variable {P:Program} {ops:Array Oper} {I:World→Prop} {Out:Prop} {Q:Act→World→Prop}
theorem stage_alloc (v:Nat→Value) (ob:Obj) (C':Nat→World→Prop) {o:Oper} {rest:List Oper} {C:World→Prop} {a:Act}
  (hv:∀s s',v s=v s'→s=s') (hw:Region.wanted o (yielded ops a.tmps)=true) (he:eff o=true)
  (hrun:∀w,C w→(execOp a.eval o).run P w=.ok (.value (v w.heap.size)) (w.alloc ob)) (hC:∀w,C w→C' w.heap.size (w.alloc ob)) (hI:∀s w,C' s w→I w)
  (h:∀s,wpStage P ops I Out Q rest (C' s) (a.put o.dst (v s))):wpStage P ops I Out Q (o::rest) C a:=by
 unfold wpStage;simp only[hw,he,if_true];refine⟨fun u=>∃s,u=v s,fun u w=>∃s,u=v s∧C' s w,⟨v 0,0,rfl⟩,fun w hc=> ?_,fun u w ⟨s,h1,h2⟩=>⟨⟨s,h1⟩,.inr (hI s w h2)⟩,fun u ⟨s,hu⟩=> ?_⟩
 ·unfold gives;rw[hrun w hc];exact⟨_,rfl,hC w hc⟩
 ·subst hu;have e:(fun w=>∃s',v s=v s'∧C' s' w)=C' s:=by
   funext w;apply propext;constructor
   ·rintro⟨s',h1,h2⟩;rw[hv _ _ h1];exact h2
   ·intro h;exact⟨s,rfl,h⟩
  have h':=h s;rw[←e]at h';exact h'
theorem stage_write (C':World→Prop) {o:Oper} {rest:List Oper} {C:World→Prop} {a:Act}
  (hw:Region.wanted o (yielded ops a.tmps)=true) (he:eff o=true)
  (hrun:∀w,C w→∃w',(execOp a.eval o).run P w=.ok .skip w'∧C' w') (hI:∀w,C' w→I w)
  (h:wpStage P ops I Out Q rest C' (a.put o.dst undef)):wpStage P ops I Out Q (o::rest) C a:=by
 unfold wpStage;simp only[hw,he,if_true];refine⟨fun u=>u=undef,fun u w=>u=undef∧C' w,⟨undef,rfl⟩,fun w hc=> ?_,fun u w hu=>⟨hu.1,.inr (hI w hu.2)⟩,fun u hu=> ?_⟩
 ·obtain⟨w',hr,h1⟩:=hrun w hc;unfold gives;rw[hr];exact⟨rfl,h1⟩
 ·subst hu;simpa using h
theorem stage_any (V:Value→Prop) (C':Value→World→Prop) {o:Oper} {rest:List Oper} {C:World→Prop} {a:Act}
  (hw:Region.wanted o (yielded ops a.tmps)=true) (he:eff o=true) (hV:∃v,V v)
  (hrun:∀w,C w→∃v w',(execOp a.eval o).run P w=.ok (.value v) w'∧V v∧C' v w') (hI:∀v w,C' v w→I w)
  (h:∀v,V v→wpStage P ops I Out Q rest (C' v) (a.put o.dst v)):wpStage P ops I Out Q (o::rest) C a:=by
 unfold wpStage;simp only[hw,he,if_true];refine⟨V,fun u w=>V u∧C' u w,hV,fun w hc=> ?_,fun u w h1=>⟨h1.1,.inr (hI u w h1.2)⟩,fun u hu=> ?_⟩
 ·obtain⟨v,w',hr,h1,h2⟩:=hrun w hc;unfold gives;rw[hr];exact⟨h1,h2⟩
 ·have e:(fun w=>V u∧C' u w)=C' u:=by
   funext w;simp[hu]
  have h':=h u hu;rw[←e]at h';exact h'
theorem stage_call_any (f:FuncId) (args:Array Value) (V:Value→Prop) (C':Value→World→Prop) {o:Oper} {rest:List Oper} {C:World→Prop} {a:Act} {asz:Array Operand} {ts:Array TypeId}
  (hop:o.op=.call ⟨.value (.func f),asz,ts⟩) (hcall:∀(args:Array Value) w,(callFunc f args).run P w=.ok (.enter f args) w)
  (hw:Region.wanted o (yielded ops a.tmps)=true) (hargs:(asz.toList.map a.eval).toArray=args) (hV:∃v,V v)
  (hc:∀w,C w→Calls P f args w fun e w'=>∃v,e=.returned v∧V v∧C' v w') (hI:∀v w,C' v w→I w)
  (h:∀v,V v→wpStage P ops I Out Q rest (C' v) (a.put o.dst v)):wpStage P ops I Out Q (o::rest) C a:=by
 unfold wpStage;have he:eff o=true:=by simp[eff,hop]
 simp only[hw,he,if_true];refine⟨V,fun u w=>V u∧C' u w,hV,fun w hC=> ?_,fun u w h1=>⟨h1.1,.inr (hI u w h1.2)⟩,fun u hu=> ?_⟩
 ·unfold gives;rw[run_go hop rfl hcall w,hargs];exact(hc w hC).mono fun e w' ⟨v,h1,h2,h3⟩=>by subst h1;exact⟨h2,h3⟩
 ·have e:(fun w=>V u∧C' u w)=C' u:=by
   funext w;simp[hu]
  have h':=h u hu;rw[←e]at h';exact h'
end
theorem wpListIn_append_row {F:Fence} {n':Nat} {P:Program} (w:World) {ops:Array Oper} {rest:List Oper} {o:Oper} {a:Act} {Q:Exit→Act→World→Prop} (hgd:o.guard=none) (s x:Operand) (t:TypeId)
  (ho:o.op=Op.call {callee:=Callee.builtin Builtin.append,args:=#[s,x],argTypes:=#[t,t]})
  (base:Nat) (e:TypeId) (i:TypeInfo) (z:Value) (size bytes:Nat) (ht:P.underlying t=some (.slice e)) (hi:P.info? e=some i) (hz:i.zero=some z)
  (hsize:i.size=size) (hby:i.bytes=bytes) (hzs:z.cells.size=size) (hsz:0<size)
  (v:Value) (n:Nat) (xs:List Value) (hs:a.eval s=v) (hown:w.ownsRow base e size v n xs)
  (ad:Addr) (m c:Nat) (news:List Value) (hx:a.eval x=.slice (some ad) m c) (hl:news.length=m*size) (hnews:∀j u,news[j]? =some u→w.cell? (ad.add j)=some u) (h1:∀u∈news,u.oneCell'=true)
  (h63:n+m≤maxLen) (hbytes:(n+m)*bytes≤140737488355328) (hb:base≤w.heap.size)
  (h:∀v' w',w'.ownsRow base e size v' (n+m) (xs++news)→w.grownBy w' v.ownBlock→(∀x,v'.ownBlock=some x→v.ownBlock=some x∨w.heap.size≤x)→wpListIn F n' P ops Q rest (a.put o.dst v') w'):wpListIn F n' P ops Q (o::rest) a w:=by
 refine wpListIn_plain hgd fun K hK'=> ?_
 obtain⟨v',w',hrun,h2,h3,h4⟩:=run_append_row (P:=P) w t o.type e i z size bytes ht hi hz hsize hby hzs hsz v n xs (row_base hown (Nat.zero_le _)) ad m c news hl hnews h1 h63 hbytes;have h2':w'.ownsRow base e size v' (n+m) (xs++news):=row_all h2 fun g hg=>by
  rcases h4 g hg with h|h
  ·exact(hown.lt g h).1
  ·omega
 unfold Oper.wpIn;refine⟨?_,?_⟩
 ·simp[Oper.about,ho,resolve,Target.leads,Sem.run_pure]
 ·rw[Oper.semAt_plain F _ _ (by rw[ho];intro c hc';cases hc')];simp[execOp,ho,resolve,invoke,builtin,hs,hx,hrun,Result.andThen];exact hK' _ _ (h v' w' h2' h3 h4)
section
variable {P:Program} {ops:Array Oper} {I:World→Prop} {Out:Prop} {Q:Act→World→Prop}
theorem stage_put (C':World→Prop) {o:Oper} {rest:List Oper} {C:World→Prop} {a:Act} {t:TypeId} {m x y:Operand} {mv kv vv:Value} (hop:o.op=.mapUpdate t m x y)
  (hw:Region.wanted o (yielded ops a.tmps)=true) (hm:a.eval m=mv) (hx:a.eval x=kv) (hy:a.eval y=vv)
  (hrun:∀w,C w→∃w',(Instr.mapUpdate t mv kv vv).run P w=.ok () w'∧C' w') (hI:∀w,C' w→I w)
  (h:wpStage P ops I Out Q rest C' (a.put o.dst undef)):wpStage P ops I Out Q (o::rest) C a:=by
 refine stage_write C' hw (by simp[eff,hop]) (fun w hc=> ?_) hI h;obtain⟨w',hr,hc'⟩:=hrun w hc;exact⟨w',by simp[execOp,hop,hm,hx,hy,hr],hc'⟩
theorem stage_del (C':World→Prop) {o:Oper} {rest:List Oper} {C:World→Prop} {a:Act} {ts:Array TypeId} {d x:Operand} {dv kv:Value} (hop:o.op=.call {callee:=.builtin .delete,args:=#[d,x],argTypes:=ts})
  (hw:Region.wanted o (yielded ops a.tmps)=true) (hd:a.eval d=dv) (hx:a.eval x=kv)
  (hrun:∀w,C w→∃w',(Builtin.delete_ ts o.type #[dv,kv]).run P w=.ok (.tuple #[]) w'∧C' w') (hI:∀w,C' w→I w)
  (h:wpStage P ops I Out Q rest C' (a.put o.dst (.tuple #[]))):wpStage P ops I Out Q (o::rest) C a:=by
 refine stage_any (fun v=>v=.tuple #[]) (fun _ w=>C' w) hw (by simp[eff,hop]) ⟨_,rfl⟩ (fun w hc=> ?_) (fun _=>hI) (fun v hv=>by subst hv;exact h);obtain⟨w',hr,hc'⟩:=hrun w hc;exact⟨_,w',by simp[execOp,hop,resolve,invoke,builtin,hd,hx,hr,Result.andThen],rfl,hc'⟩
end
section
variable {P:Program} {ops:Array Oper} {I:World→Prop} {Out:Prop} {Q:Act→World→Prop}
theorem stage_putLast (C':World→Prop) {o:Oper} {C:World→Prop} {a:Act} {t:TypeId} {m x y:Operand} {mv kv vv:Value} (hop:o.op=.mapUpdate t m x y) (hd:o.dst=none) (hl:lastWaits ops=true)
  (hw:Region.wanted o (yielded ops a.tmps)=true) (hm:a.eval m=mv) (hx:a.eval x=kv) (hy:a.eval y=vv)
  (hrun:∀w,C w→∃w',(Instr.mapUpdate t mv kv vv).run P w=.ok () w'∧C' w') (h:∀w,C' w→Q a w):wpStage P ops I Out Q [o] C a:=by
 unfold wpStage;have he:eff o=true:=by simp[eff,hop]
 simp only[hw,he,if_true];refine⟨fun u=>u=undef,fun u w'=>u=undef∧C' w',⟨undef,rfl⟩,fun w hc=> ?_,fun u w hu=>⟨hu.1,.inl ⟨by simp,hl⟩⟩,fun u hu=> ?_⟩
 ·obtain⟨w',hr,hc'⟩:=hrun w hc;unfold gives;have hr2:(execOp a.eval o).run P w=.ok .skip w':=by simp[execOp,hop,hm,hx,hy,hr]
  rw[hr2];exact⟨rfl,hc'⟩
 ·subst hu;intro w' ⟨_,hc'⟩;rw[hd];exact h w' hc'
end
end Go.Proofs.YteidpgdfocjdbaaGreat
namespace Go.Proofs.YteidpgdfocjdbaaGreat.Bw
open Go Go.RowKit Go.Stg Go.Sort Go.Proofs
theorem isNaN_ok (x:Int) (w:World):Calls Tryz.prog 162 #[.int .i64 x] w fun e w'=>e=.returned (.bool false)∧w'=w:=by
 go_enter Tryz.func162,Tryz.ntmps162;go_wp2_with fail;go_ret;exact⟨rfl,rfl⟩
theorem compare_ok (x y:Int) (w:World):Calls Tryz.prog 158 #[.int .i64 x,.int .i64 y] w fun e w'=>e=.returned (.int .i64 (cmpI x y))∧w'=w:=by
 have hN:=Lib.hid isNaN_ok;obtain⟨c,hc⟩:∃c,cmpI x y=c:=⟨_,rfl⟩;rw[hc];have hcH:=Lib.hid hc;clear hc;go_enter Tryz.func158,Tryz.ntmps158;go_wp2_with fail;refine(hN.out x w).mono ?_;rintro e w1 ⟨rfl,rfl⟩;go_wp2_with fail;refine(hN.out y _).mono ?_;rintro e w1 ⟨rfl,rfl⟩;have hc:=hcH.out;unfold cmpI at hc;by_cases h1:x<y
 ·rw[if_pos h1]at hc;subst hc;go_wp2_with fail;go_ret;exact⟨rfl,rfl⟩
 ·rw[if_neg h1]at hc;by_cases h2:y<x
  ·rw[if_pos h2]at hc;subst hc;go_wp2_with fail;go_ret;exact⟨rfl,rfl⟩
  ·rw[if_neg h2]at hc;subst hc;go_wp2_with fail;go_ret;exact⟨rfl,rfl⟩
theorem or_ok (g:Nat) (x y:Int) (w:World) (h:w.heap[g]? =some (.cells #[.int .i64 x,.int .i64 y] 3 (0,0))):Calls Tryz.prog 157 #[.slice (some ⟨g,0,none⟩) 2 2] w fun e w'=>e=.returned (.int .i64 (if x≠0 then x else y))∧w'=w:=by
 obtain⟨c,hc⟩:∃c,(if x≠0 then x else y)=c:=⟨_,rfl⟩;rw[hc];have hcH:=Lib.hid hc;have hb:=cells_of h;clear hc;go_enter Tryz.func157,Tryz.ntmps157;go_wp2_with fail;refine wp_loop_rounds 3 ?_;rw[rounds_succ];have hc:=hcH.out;by_cases h1:x=0
 ·subst h1;rw[if_neg (by simp)]at hc;subst hc;go_wp2_with fail;rw[rounds_succ];by_cases h2:y=0
  ·subst h2;go_wp2_with fail;rw[rounds_succ];go_wp2_with fail;go_ret;exact⟨rfl,rfl⟩
  ·go_wp2_with fail;go_ret;exact⟨rfl,rfl⟩
 ·rw[if_pos h1]at hc;subst hc;go_wp2_with fail;go_ret;exact⟨rfl,rfl⟩
def GB (W w:World):Prop:=∃q os,w=grow (W.drewN q) os
theorem GB.refl (W:World):GB W W:=⟨0,#[],by simp[grow,World.drewN]⟩
theorem GB.drew {W w:World} (h:GB W w):GB W w.drew:=by
 obtain⟨q,os,rfl⟩:=h;exact⟨q+1,os,rfl⟩
theorem GB.alloc {W w:World} (h:GB W w) (o:Obj):GB W (w.alloc o):=by
 obtain⟨q,os,rfl⟩:=h;exact⟨q,os++#[o],by rw[alloc_eq_grow,grow_grow]⟩
theorem GB.trans {W W1 w:World} (h:GB W W1) (k:GB W1 w):GB W w:=by
 obtain⟨q,os,rfl⟩:=h;obtain⟨q',os',rfl⟩:=k;refine⟨q+q',os++os',?_⟩;show grow (grow ((W.drewN q).drewN q') os) os'=_;rw[grow_grow,World.drewN_drewN]
theorem GB.mod {W w:World} (h:GB W w):Mod [] W w:=by
 obtain⟨q,os,rfl⟩:=h;exact⟨rfl,rfl,rfl,by simp[grow,World.drewN],fun k hk _=>by rw[heap_grow_old _ _ (by simpa[World.drewN]using hk)];rfl⟩
theorem cmp_ok (x y:Bor) (w:World):Calls Tryz.prog 156 #[bv x,bv y] w fun e w'=>e=.returned (.int .i64 (cf x y))∧GB w w':=by
 obtain⟨⟨xo,xh⟩,xm,xc⟩:=x;obtain⟨⟨yo,yh⟩,ym,yc⟩:=y;unfold bv cf;have hcmp1:=Lib.hid (compare_ok xo yo);have hcmp2:=Lib.hid (compare_ok xh yh);have hor:=Lib.hid fun g w h=>or_ok g (cmpI xo yo) (cmpI xh yh) w h
 show Calls _ _ _ _ fun e w'=>e=.returned (.int .i64 (if cmpI xo yo≠0 then cmpI xo yo else cmpI xh yh))∧GB w w'
 generalize(if cmpI xo yo≠0 then cmpI xo yo else cmpI xh yh)=c at*;generalize cmpI xo yo=c1 at*;generalize cmpI xh yh=c2 at*;have b0:=at_alloc_old (o:=.cells #[.int .i64 yo,.int .i64 yh,.int .i64 ym,.int .i64 yc] 130 (0,0)) (at_alloc w (.cells #[.int .i64 xo,.int .i64 xh,.int .i64 xm,.int .i64 xc] 130 (0,0)));have b1:=at_alloc (w.alloc (.cells #[.int .i64 xo,.int .i64 xh,.int .i64 xm,.int .i64 xc] 130 (0,0))) (.cells #[.int .i64 yo,.int .i64 yh,.int .i64 ym,.int .i64 yc] 130 (0,0));rw[World.size_alloc]at b1;have hg:=Lib.hid (((GB.refl w).alloc (.cells #[.int .i64 xo,.int .i64 xh,.int .i64 xm,.int .i64 xc] 130 (0,0))).alloc (.cells #[.int .i64 yo,.int .i64 yh,.int .i64 ym,.int .i64 yc] 130 (0,0)));go_enter Tryz.func156,Tryz.ntmps156;go_wp2_with fail;generalize(w.alloc (.cells #[.int .i64 xo,.int .i64 xh,.int .i64 xm,.int .i64 xc] 130 (0,0))).alloc (.cells #[.int .i64 yo,.int .i64 yh,.int .i64 ym,.int .i64 yc] 130 (0,0))=W at*;have k0:=GW.cells (S:=[]) b0 (by simp);have k1:=GW.cells (S:=[]) b1 (by simp);refine wp_region_stage (fun w'=>∃x:GW [] W,w'=x.1) (fun w'=>GB W w') (by kernel_rfl) (by kernel_rfl) (fun _ h=>InGW.of h.mod) (GB.refl _).drew ?_;refine stage_quiet 4 (by kernel_rfl) ?_;simp only[tA,tB,tC,tD];(repeat go_big_quiet_step (fail));refine wpQuiet_nil ?_;refine stage_go 158 _ (.int .i64 c1) (fun w'=>GB W w') rfl Tryz.call158 rfl rfl (fun w' h=>(hcmp1.out _).mono fun e w'' ⟨he,hw⟩=>⟨he,by rw[hw];exact h⟩) (fun _ h=>InGW.of h.mod) ?_;simp only[Act.put,sA,sB,sC];refine stage_quiet 4 (by kernel_rfl) ?_;simp only[tA,tB,tC,tD];(repeat go_big_quiet_step (fail));refine wpQuiet_nil ?_;refine stage_go 158 _ (.int .i64 c2) (fun w'=>GB W w') rfl Tryz.call158 rfl rfl (fun w' h=>(hcmp2.out _).mono fun e w'' ⟨he,hw⟩=>⟨he,by rw[hw];exact h⟩) (fun _ h=>InGW.of h.mod) ?_;simp only[Act.put,sA,sB,sC];refine stage_alloc (fun s=>.slice (some ⟨s,0,none⟩) 2 2) (.cells #[.int .i64 c1,.int .i64 c2] 3 (0,0)) (fun s w'=>GB W w'∧w'.heap[s]? =some (.cells #[.int .i64 c1,.int .i64 c2] 3 (0,0))) (by intro s s' h;simpa using h) rfl rfl (fun w' hw=> ?_) (fun w' hw=>⟨hw.alloc _,at_alloc _ _⟩) (fun s w' h=>InGW.of h.1.mod) (fun s=> ?_)
 ·kernel_rfl
 simp only[Act.put,sA,sB,sC];refine stage_go 157 _ (.int .i64 c) (fun w'=>GB W w') rfl Tryz.call157 rfl rfl (fun w' h=>(hor.out _ _ h.2).mono fun e w'' ⟨he,hw⟩=>⟨he,by rw[hw];exact h.1⟩) (fun _ h=>InGW.of h.mod) ?_;simp only[Act.put,sA,sB,sC];refine stage_quiet 1 (by kernel_rfl) ?_;simp only[tA,tB,tC,tD];(repeat go_big_quiet_step (fail));refine wpQuiet_nil ?_;refine stage_nil fun w9 hw9=> ?_
 go_wp2_with fail;go_ret;exact⟨rfl,hg.out.trans hw9⟩
theorem cmp_lays (blk off size:Nat) (w:World):CmpLays Tryz.prog 156 #[] bcell 4 cf blk off size w:=fun _ _ _ _ x y=>cmp_ok x y _
end Go.Proofs.YteidpgdfocjdbaaGreat.Bw
namespace Go.Proofs.YteidpgdfocjdbaaGreat.Bw
open Go Go.Shelf
def sortL_ren:Go.Shelf.Ren:=⟨fun|6=>155|15=>161|14=>160|28=>171|29=>172|20=>163|21=>164|22=>165|23=>166|24=>167|25=>168|26=>169|27=>170|46=>173|47=>174|48=>175|49=>176|50=>177|57=>178|n=>n,fun|22=>58|24=>130|25=>260|3=>3|39=>235|0=>0|53=>31|55=>49|4=>4|46=>265|45=>264|50=>194|5=>5|9=>9|66=>272|70=>275|76=>277|77=>46|n=>n,fun|n=>n⟩
theorem sortL:Go.Proofs.SlLaysF0.n6 Tryz.prog sortL_ren:={
 mixed:=by kernel_rfl
 f6:=⟨Tryz.f155.name,by decide,Tryz.func155.trans (congrArg some (by kernel_rfl))⟩
 f14:=⟨Tryz.f160.name,by decide,Tryz.func160.trans (congrArg some (by kernel_rfl))⟩
 f15:=Tryz.func161.trans (congrArg some (by kernel_rfl))
 f20:=⟨Tryz.f163.name,by decide,Tryz.func163.trans (congrArg some (by kernel_rfl))⟩
 f21:=⟨Tryz.f164.name,by decide,Tryz.func164.trans (congrArg some (by kernel_rfl))⟩
 f22:=⟨Tryz.f165.name,by decide,Tryz.func165.trans (congrArg some (by kernel_rfl))⟩
 f23:=⟨Tryz.f166.name,by decide,Tryz.func166.trans (congrArg some (by kernel_rfl))⟩
 f24:=⟨Tryz.f167.name,by decide,Tryz.func167.trans (congrArg some (by kernel_rfl))⟩
 f25:=⟨Tryz.f168.name,by decide,Tryz.func168.trans (congrArg some (by kernel_rfl))⟩
 f26:=⟨Tryz.f169.name,by decide,Tryz.func169.trans (congrArg some (by kernel_rfl))⟩
 f27:=⟨Tryz.f170.name,by decide,Tryz.func170.trans (congrArg some (by kernel_rfl))⟩
 f28:=Tryz.func171.trans (congrArg some (by kernel_rfl))
 f29:=Tryz.func172.trans (congrArg some (by kernel_rfl))
 f46:=⟨Tryz.f173.name,by decide,Tryz.func173.trans (congrArg some (by kernel_rfl))⟩
 f47:=Tryz.func174.trans (congrArg some (by kernel_rfl))
 f48:=Tryz.func175.trans (congrArg some (by kernel_rfl))
 f49:=⟨Tryz.f176.name,by decide,Tryz.func176.trans (congrArg some (by kernel_rfl))⟩
 f50:=⟨Tryz.f177.name,by decide,Tryz.func177.trans (congrArg some (by kernel_rfl))⟩
 f57:=⟨Tryz.f178.name,by decide,Tryz.func178.trans (congrArg some (by kernel_rfl))⟩
 t0:=Tryz.underlying0
 a0:=Tryz.isAgg0
 z0:=Tryz.sizeOf0
 v0:=Tryz.zeroValue0
 t3:=Tryz.underlying3
 a3:=Tryz.isAgg3
 z3:=Tryz.sizeOf3
 v3:=Tryz.zeroValue3
 t4:=Tryz.underlying4
 a4:=Tryz.isAgg4
 z4:=Tryz.sizeOf4
 v4:=Tryz.zeroValue4
 t5:=Tryz.underlying5
 a5:=Tryz.isAgg5
 z5:=Tryz.sizeOf5
 v5:=Tryz.zeroValue5
 t9:=Tryz.underlying9
 a9:=Tryz.isAgg9
 z9:=Tryz.sizeOf9
 v9:=Tryz.zeroValue9
 t22:=Tryz.underlying58
 a22:=Tryz.isAgg58
 z22:=Tryz.sizeOf58
 v22:=Tryz.zeroValue58
 t25:=Tryz.underlying260
 a25:=Tryz.isAgg260
 z25:=Tryz.sizeOf260
 v25:=Tryz.zeroValue260
 t39:=Tryz.underlying235
 a39:=Tryz.isAgg235
 z39:=Tryz.sizeOf235
 v39:=Tryz.zeroValue235
 t45:=Tryz.underlying264
 a45:=Tryz.isAgg264
 z45:=Tryz.sizeOf264
 v45:=Tryz.zeroValue264
 t46:=Tryz.underlying265
 a46:=Tryz.isAgg265
 z46:=Tryz.sizeOf265
 v46:=Tryz.zeroValue265
 t50:=Tryz.underlying194
 a50:=Tryz.isAgg194
 z50:=Tryz.sizeOf194
 v50:=Tryz.zeroValue194
 t53:=Tryz.underlying31
 a53:=Tryz.isAgg31
 z53:=Tryz.sizeOf31
 v53:=Tryz.zeroValue31
 t55:=Tryz.underlying49
 a55:=Tryz.isAgg49
 z55:=Tryz.sizeOf49
 v55:=Tryz.zeroValue49
 t66:=Tryz.underlying272
 a66:=Tryz.isAgg272
 z66:=Tryz.sizeOf272
 v66:=Tryz.zeroValue272
 t70:=Tryz.underlying275
 a70:=Tryz.isAgg275
 z70:=Tryz.sizeOf275
 v70:=Tryz.zeroValue275
 t76:=Tryz.underlying277
 a76:=Tryz.isAgg277
 z76:=Tryz.sizeOf277
 v76:=Tryz.zeroValue277
 t77:=Tryz.underlying46
 a77:=Tryz.isAgg46
 z77:=Tryz.sizeOf46
 v77:=Tryz.zeroValue46}
end Go.Proofs.YteidpgdfocjdbaaGreat.Bw
namespace Go.Proofs.YteidpgdfocjdbaaGreat.Bw
open Go Go.RowKit Go.Stg
theorem info_bor:(Tryz.prog.info? 130).map (fun i=>(i.zero,i.size,i.bytes))=some (some (bv b0),4,32):=by kernel_rfl
theorem add_at (b o j:Nat):(⟨b,o,none⟩:Addr).add j=⟨b,o+j,none⟩:=by unfold Addr.add;split<;>simp_all
theorem cellsE (w:World) (l:List Value) (T:TypeId) (cs:Array Value) (hc:cs.toList=l):∀j u,l[j]? =some u→(w.alloc (.cells cs T)).cell? ((⟨w.heap.size,0,none⟩:Addr).add j)=some u:=by
 intro j u hu;rw[add_at,Nat.zero_add,cells_of (at_alloc w (.cells cs T))];rw[←hc,Array.getElem?_toList]at hu;exact hu
end Go.Proofs.YteidpgdfocjdbaaGreat.Bw
namespace Go.Proofs.YteidpgdfocjdbaaGreat.Bw
open Go Go.RowKit Go.Stg Go.Sort Go.Proofs
attribute [local go_sem] Oper.semAt_some
theorem sort_ok {w:World} {base:Nat} {v:Value} {L:List Bor} (h:w.ownsRow base 130 4 v L.length (flat bcell L)) (hn:(L.map (·.1)).Nodup) (hl:L.length≤1000000):
  Calls Tryz.prog 155 #[v,.func (.func 156) #[] #[]] w fun e w'=>e=.returned (.tuple #[])∧∃L',Srt L'∧L'.Perm L∧w'.ownsRow base 130 4 v L.length (flat bcell L')∧Mod v.ownBlock.toList w w':=by
 rcases row_cases h with⟨rfl,h0,_⟩|⟨g,cap,rfl,_,hg,_⟩
 ·have hL:L=[]:=List.eq_nil_of_length_eq_zero h0;subst hL;have hcon:=AnyF.slices_SortFunc_none sortL none 0 (.func (.func 156) #[] #[]) w;change Calls Tryz.prog 155 _ _ _ at hcon;exact hcon.mono fun e w' ⟨he,hw⟩=>⟨he,[],List.Pairwise.nil,List.Perm.refl _,by rw[hw];exact h,by rw[hw];exact Mod.refl _ _⟩
 ·have eg:∀args w,(callFunc 156 args).run Tryz.prog w=.ok (.enter 156 args) w:=enters_of Tryz.func156 (by kernel_rfl) rfl;have hcon:=AnyQ.slices_SortFunc sortL 4 Tryz.isAgg130 Tryz.sizeOf130 bcell bcell_length (fun x v hv=>by simp[bcell]at hv;rcases hv with rfl|rfl|rfl|rfl<;>rfl) cf swo_cf 156 #[] g 0 cap L.toArray w eg (cmp_lays g 0 L.toArray.size w) (holds_own h rfl) hg (by simp;omega);change Calls Tryz.prog 155 _ _ _ at hcon;simp only[List.size_toArray]at hcon;refine hcon.mono fun e w' ⟨he,d',n,os,hp,hs,hw⟩=>⟨he,d'.toList,?_⟩
  obtain⟨s1,s2,s3⟩:=sorted_srt (d:=L.toArray) (d':=d') (by simpa using hn) (by simpa using hp) (by simpa using hs);obtain⟨o1,o2⟩:=own_sorted h d' (by simpa using s3) n os;exact⟨s1,by simpa using s2,by rw[hw];exact o1,by rw[hw];exact o2⟩
def Judges (w:World) (g:Nat) (lb:Array Value) (p:Bor→Bool):Prop:=∀x W,Mod [] w W→Calls Tryz.prog g (#[bv x]++lb) W fun e W'=>e=.returned (.bool (p x))∧Mod [] W W'
theorem KeepsOthers.walks {A B:World} (h:KeepsOthers A B):KeepsWalks A B:=⟨h.size,fun k o hk ho=>h.same k o hk (Obj.not_cells_of_walk ho)⟩
theorem Mod.others {A B:World} (h:Mod [] A B):KeepsOthers A B:=⟨h.size,fun _ _ hk _=>h.at hk (by simp)⟩
theorem kpV_b {n₀ B:Nat} (hn:n₀≤B) (W:World) (l:Nat) (o o':Obj) (hl:B≤l) (h:W.heap[l]? =some o) (_:o.isCells=false) (hw:o.isWalk=false):KpV n₀ W (W.putObj l o'):=by
 refine⟨⟨rfl,rfl,rfl,by simp[World.putObj],fun k hk=>World.putObj_heap_other (by omega)⟩,⟨by simp[World.putObj],fun k u hk hu=> ?_⟩⟩;by_cases e:k=l
 ·subst e;rw[h]at hk;cases hk;rw[hw]at hu;cases hu
 ·exact(World.putObj_heap_other (by omega)).trans hk
theorem find_ok {w:World} {b:Nat} {m1 m2:Value} {bs L:List Bor} (hb:w.heap[b]? =some (.cells #[m1,m2] 139 (0,0))) (hM:MapV w m1 bs) (hp:bs.Perm L) (hS:Srt L) (hlen:L.length≤1000000) {g:Nat} {lb:Array Value} {p:Bor→Bool}
  (hJ:Judges w g lb p) (eg:∀args w,(callFunc g args).run Tryz.prog w=.ok (.enter g args) w):
  Calls Tryz.prog 147 #[.pointer (some ⟨b,0,none⟩),.func (.func g) #[] lb] w fun e w'=>∃v,e=.returned v∧w'.ownsRow w.heap.size 130 4 v (L.filter p).length (flat bcell (L.filter p))∧Mod [] w w':=by
 obtain⟨i5,hi5,hz0,hz1,hz2⟩:=info_parts info_bor;have hbl:=hp.length_eq;have hfin:∀ys L':List Bor,ys.Perm bs→Srt L'→L'.Perm (ys.filter p)→L'=L.filter p:=fun ys L' h1 h2 h3=>h2.unique (hS.filter p) (h3.trans ((h1.trans hp).filter p))
 have hnod:∀ys:List Bor,ys.Perm bs→((ys.filter p).map (·.1)).Nodup:=fun ys h1=>by
  have h2:=(((h1.trans hp).filter p).map (·.1)).nodup_iff;exact h2.2 (hS.filter p).nodup
 have hfinH:=Lib.hid hfin;have hnodH:=Lib.hid hnod;have hJH:=Lib.hid hJ;have hMlt:=Lib.hid hM.lt;have hMH:=Lib.hid fun w' (h:Mod [] w w')=>hM.keep (w':=w') fun mb hmb=>h.block mb (hMlt.out mb hmb) (by simp)
 have hmv:∃m,m1=.map m:=by rcases hM with⟨rfl,_⟩|⟨mb,rfl,_⟩<;>exact⟨_,rfl⟩
 obtain⟨m,rfl⟩:=hmv;have hbH:=Lib.hid (cells_of hb);have hfr:=frozen_of hb;clear hfin hnod hJ hM hp hS;refine(callsIn_wide (n:=5)).1 ?_;refine callsIn_of_wp_marks Tryz.func147 rfl trivial ?_ rfl;simp only[Tryz.ntmps147,List.size_toArray,List.length_cons,List.length_nil,Nat.reduceAdd,Nat.reduceSub,Array.replicate_succ,Array.replicate_zero,List.push_toArray,List.append_toArray,List.nil_append,List.cons_append];have hm0:=((Mod.refl [] w).alloc (.cells #[.func (.func g) #[] lb] 252)).alloc (.cells #[.slice none 0 0] 58);have hcb:=cells_of (hm0.at hb (by simp))
 gi_wp2_with fail
 refine⟨trivial,(callsIn_wide.2 (values_made (.map m) ⟨_,rfl⟩ _)).mono ?_⟩;rintro e w4 ⟨rfl,rfl⟩;gi_wp2_with fail;have hm1:=hm0.alloc (.cells #[.map m] 136);have z1:(w.alloc (.cells #[.func (.func g) #[] lb] 252)).heap.size=w.heap.size+1:=by simp
 have z2:((w.alloc (.cells #[.func (.func g) #[] lb] 252)).alloc (.cells #[.slice none 0 0] 58)).heap.size=w.heap.size+2:=by simp
 have b0:Boxed _ w.heap.size 252 (.func (.func g) #[] lb):=at_alloc_old (o:=.cells #[.map m] 136) (at_alloc_old (o:=.cells #[.slice none 0 0] 58) (at_alloc w (.cells #[.func (.func g) #[] lb] 252)));have b1:Boxed _ (w.heap.size+1) 58 (.slice none 0 0):=z1▸at_alloc_old (o:=.cells #[.map m] 136) (at_alloc (w.alloc (.cells #[.func (.func g) #[] lb] 252)) (.cells #[.slice none 0 0] 58));have b2:=at_alloc ((w.alloc (.cells #[.func (.func g) #[] lb] 252)).alloc (.cells #[.slice none 0 0] 58)) (.cells #[.map m] 136);rw[z2]at b2;have z3:(((w.alloc (.cells #[.func (.func g) #[] lb] 252)).alloc (.cells #[.slice none 0 0] 58)).alloc (.cells #[.map m] 136)).heap.size=w.heap.size+3:=by simp
 have hMW:=hMH.out _ hm1;have hB0:=hm1.below;clear z1 z2 hm0 hm1 hcb hb hMH hfr hbH;generalize((w.alloc (.cells #[.func (.func g) #[] lb] 252)).alloc (.cells #[.slice none 0 0] 58)).alloc (.cells #[.map m] 136)=W0 at*;generalize hq:w.heap.size=q at*;have hst:=values_says 4 (by omega) (q+2) q W0 (by omega) hMW hMlt.out b2;refine wpIn_rangeFunc_at rfl (by omega) (gf:=159) (lb:=#[.pointer (some ⟨q+2,0,none⟩)]) rfl trivial (enters_of Tryz.func159 (by kernel_rfl) rfl) hst (RowKit.Below.refl _ _) (fun _=>rfl)
  (fun h k=>⟨h.1.trans k.1,h.2.trans k.2⟩) (fun W l o o' hl=>kpV_b (by omega) W l o o' hl)
  (fun(pre:List Bor) W=>(∃v,Boxed W (q+1) 58 v∧W.ownsRow q 130 4 v (pre.filter p).length (flat bcell (pre.filter p))∧True)∧(Boxed W q 252 (.func (.func g) #[] lb)∧RowKit.Below q w W)) (fun _ _ _=>False)
  (OwnFrom.and (Own.from (holdsRow_own q (q+1) 58 130 4 (fun(pre:List Bor)=>(pre.filter p).length) (fun(pre:List Bor)=>flat bcell (pre.filter p)) (fun _ _=>True)) _) (OwnFrom.and (Own.from (boxed_own q 252 (fun(_:List Bor)=>.func (.func g) #[] lb)) _) (ownFrom_below (by omega) (by omega))))
  (fun _=>ownFrom_pure _ _) ⟨⟨_,b1,World.ownsRow_nil _ _ _ _,trivial⟩,b0,hB0⟩
  (fun T x r=>(T.setIfInBounds 14 (bv x)).setIfInBounds 6 (.pointer (some ⟨r,0,none⟩)))
  (fun _ x r W=>W.heap[r]? =some (.cells #[.int .i64 x.1.1,.int .i64 x.1.2,.int .i64 x.2.1,.int .i64 x.2.2] 130 (0,0)))
  ?hax ?assign ?body ?done ?stop
 case hax=>
  rintro pre x r _ A B row h1 hg hr;exact(hg.block r (lt_of h1) (fun e'=>by obtain⟨_,o,ho,hc⟩:=hr r e'.symm;rw[h1]at ho;cases ho;cases hc)).trans h1
 case assign=>
  rintro l pre ⟨⟨xo,xh⟩,xm,xc⟩ W K ⟨⟨v,hv,hrow, -⟩,hv0,hB⟩-hK;have hKH:=Lib.hid hK;clear hK hst;unfold bv
  gi_wp2_with fail
  have hbx:=at_alloc W (.cells #[.int .i64 xo,.int .i64 xh,.int .i64 xm,.int .i64 xc] 130 (0,0));have hqW:=hv0.lt;have hBW:=(RowKit.Below.refl q W).alloc (by omega) (.cells #[.int .i64 xo,.int .i64 xh,.int .i64 xm,.int .i64 xc] 130 (0,0));exact hKH.out W.heap.size _ ((KeepsOthers.alloc W _).from _) ⟨hBW,KeepsWalks.alloc W _⟩ ⟨⟨v,hv.alloc _,hrow.alloc _,trivial⟩,hv0.alloc _,hB.trans hBW⟩ hbx
 case body=>
  rintro l pre ⟨⟨xo,xh⟩,xm,xc⟩ r W ⟨⟨v,hv,hrow, -⟩,hv0,hB⟩ hr hlen;simp only at hr;have hmW:Mod [] w W:=Mod.of_below (by rw[hq];exact hB);have hJx:=hJH.out ((xo,xh),xm,xc) W hmW;have hpl:(pre.filter p).length≤pre.length:=List.length_filter_le _ _;have hc1:=hv.cell;have hc0:=hv0.cell;have hcr:=cells_of hr;have hvH:=Lib.hid hv;have hv0H:=Lib.hid hv0;have hBH:=Lib.hid hB;have hrH:=Lib.hid hr;have hrowH:=Lib.hid hrow;have hqW:=hv.lt;unfold bv at hJx;unfold bv;clear hst b0 b1 b2 hB0 hv hv0 hB hr hrow hMW
  gi_wp2_with fail
  refine⟨trivial,(callsIn_wide.2 hJx).mono ?_⟩;rintro e w5 ⟨rfl,hm5⟩;have hv5:Boxed w5 (q+1) 58 v:=hm5.at hvH.out (by simp);have hv05:Boxed w5 q 252 (.func (.func g) #[] lb):=hm5.at hv0H.out (by simp);have hr5:=hm5.at hrH.out (by simp);have hrow5:=row_mod hrowH.out hm5 (by simp);have hko:=Mod.others hm5;have hq5:q+1<w5.heap.size:=hv5.lt;have hB5:=hBH.out.trans (hm5.below.mono (by omega));have hkB5:=Lib.hid (hm5.below.mono (show q≤W.heap.size by omega));have hkoH:=Lib.hid hko;have hB5H:=Lib.hid hB5;clear hc1 hc0 hcr hJx hm5 hB5 hko
  cases hpx:p ((xo,xh),xm,xc)with
  |false=>
   have hfl:(pre++[((xo,xh),xm,xc)]).filter p=pre.filter p:=by rw[List.filter_append];simp[hpx]
   have hflH:=Lib.hid hfl;have hv5H:=Lib.hid hv5;have hv05H:=Lib.hid hv05;have hrow5H:=Lib.hid hrow5;clear hfl hpx hv5 hv05 hrow5 hr5
   gi_wp2_with fail
   refine⟨hkoH.out.from _,⟨hkB5.out,hkoH.out.walks⟩,⟨v,hv5H.out,?_,trivial⟩,hv05H.out,hB5H.out⟩;rw[hflH.out];exact hrow5H.out
  |true=>
   have hfl:(pre++[((xo,xh),xm,xc)]).filter p=pre.filter p++[((xo,xh),xm,xc)]:=by rw[List.filter_append];simp[hpx]
   have hflH:=Lib.hid hfl;have hnw:=cellsE w5 (bcell ((xo,xh),xm,xc)) 130 #[.int .i64 xo,.int .i64 xh,.int .i64 xm,.int .i64 xc] rfl;have hnwH:=Lib.hid hnw;have hc1:=hv5.cell;have hcr:=cells_of hr5;have hb1:(pre.filter p).length+1≤maxLen:=by unfold maxLen;omega
   have hb2:((pre.filter p).length+1)*32≤140737488355328:=by omega
   have hv5H:=Lib.hid hv5;have hv05H:=Lib.hid hv05;have hrow5H:=Lib.hid hrow5;clear hfl hpx hv5 hv05 hrow5 hr5 hnw
   gi_wp2_with (gi_at_builtin;refine wpListIn_append_row _ rfl _ _ 58 rfl q 130 i5 (bv b0) 4 32 Tryz.underlying58 hi5 hz0 hz1 hz2 rfl (by decide) v (pre.filter p).length _ rfl (hrow5H.out.alloc _) ⟨w5.heap.size,0,none⟩ 1 1 (bcell ((xo,xh),xm,xc)) rfl rfl hnwH.out (by simp[bcell,Value.oneCell']) hb1 hb2 (by simp;omega) ?_;intro v' w7 hown' hgrow hfr;obtain⟨g7,c7,rfl⟩:=ownsRow_succ hown';obtain⟨k1,k2,k3,k4,k5⟩:=hv5H.out.appended (by decide) hrow5H.out (by omega) (by omega) hown' hgrow;have hk1c:=k1.cell;have hk1f:=k1.frozen;have hgrowH:=Lib.hid hgrow;have k2H:=Lib.hid k2;have k3H:=Lib.hid k3;have k4H:=Lib.hid k4;have k5H:=Lib.hid k5;clear k1 k2 k3 k4 k5 hgrow hfr)
   refine⟨(hkoH.out.trans k4H.out).from _,⟨hkB5.out.trans k5H.out,(hkoH.out.trans k4H.out).walks⟩,⟨_,k2H.out,?_,trivial⟩,?_,hB5H.out.trans k5H.out⟩
   ·rw[hflH.out,List.length_append,flat_append,flat_one];exact k3H.out
   ·exact((hv05H.out.alloc _).kept hgrowH.out (hv05H.out.not_row (by decide) hrow5H.out)).other (by omega) _
 case done=>
  rintro D ys W hD hys ⟨⟨v,hv,hrow, -⟩,hv0,hB⟩ hK;have hc:=hv.cell;have hcf:=hv.frozen;obtain⟨va,vl,vc,rfl⟩:∃a l c,v=.slice a l c:=by
   rcases row_cases hrow with⟨rfl,_⟩|⟨_,_,rfl,_⟩<;>exact⟨_,_,_,rfl⟩
  have hsort:=sort_ok hrow (hnodH.out ys hys) (by have h1:=hys.length_eq;have h2:=List.length_filter_le p ys;omega);have hne:=hv.not_row (by decide) hrow;have hneH:=Lib.hid hne;have hvH:=Lib.hid hv;have hBH:=Lib.hid hB;have hrowH:=Lib.hid hrow;clear hst hMW b0 b1 b2 hB0 hv hrow hv0 hB hne
  gi_wp2_with fail
  refine⟨trivial,(callsIn_wide.2 hsort).mono ?_⟩;rintro e w5 ⟨rfl,L',hs1,hs2,hr5,hm5⟩;have hL':=hfinH.out ys L' hys hs1 hs2;subst hL';have hv5:Boxed w5 (q+1) 58 (.slice va vl vc):=hm5.at hvH.out (by have:=hneH.out;simpa using fun e=>this e.symm);have hK5:=hm5.at hK (by
   intro hx;rcases row_cases hrowH.out with⟨e',_,_⟩|⟨g',cap',e',_,_⟩
   ·cases e';simp[Value.ownBlock]at hx
   ·cases e';simp[Value.ownBlock]at hx;have h6:=hrowH.out.2;rcases h6 with⟨h6,_⟩|⟨g2,c2,cur,h6,_,h7,_⟩
    ·cases h6
    ·cases h6;rw[←hx,hK]at h7;cases h7)
  have hB5:=hBH.out.trans (show RowKit.Below q W w5 from⟨hm5.os,hm5.tape,hm5.output,hm5.size,fun k hk=>hm5.block k (Nat.lt_of_lt_of_le hk (by rw[←hq];exact hBH.out.size)) (by
   intro hx;rcases row_cases hrowH.out with⟨e',_,_⟩|⟨g',cap',e',hg',_⟩
   ·cases e';simp[Value.ownBlock]at hx
   ·cases e';simp[Value.ownBlock]at hx;omega)⟩)
  have hc5:=hv5.cell;have hlen5:(L.filter p).length=(ys.filter p).length:=hs2.length_eq;rw[←hlen5]at hr5;have hr5H:=Lib.hid hr5;have hB5H:=Lib.hid hB5;clear hc hcf hneH hrowH hm5 hr5 hB5 hs1 hs2 hK hvH hsort
  gi_wp2_with fail
  refine⟨by simp,.inl ⟨_,_,rfl,run_takeDeferred hK5,?_⟩⟩;have hr4:=ownsRow_putObj hr5H.out (.deferred none) hK5 rfl;have hB4:=hB5H.out.trans (belowK_b (w:=w) (by omega) w5 D _ (.deferred none) (by omega) hK5 rfl rfl);refine⟨.slice va vl vc,?_,_,rfl,by rw[hq];exact hr4,Mod.of_below (by rw[hq];exact hB4)⟩;simp[results,Tryz.results147,asAddr,go_sem]
 case stop=>
  rintro D c pre W _ hp h _;exact absurd h (by simp)
end Go.Proofs.YteidpgdfocjdbaaGreat.Bw
