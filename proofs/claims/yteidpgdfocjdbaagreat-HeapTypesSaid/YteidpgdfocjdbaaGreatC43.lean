/- Joined contracts. No conditions. -/
import Derived.Test.YteidpgdfocjdbaaGreatCS
import Derived.Test.YteidpgdfocjdbaaGreatC03
import Derived.Test.YteidpgdfocjdbaaGreatC07
import Derived.Test.YteidpgdfocjdbaaGreatC16
import Derived.Test.YteidpgdfocjdbaaGreatC21
import Derived.Test.YteidpgdfocjdbaaGreatC30
import Derived.Test.YteidpgdfocjdbaaGreatC31
import Derived.Test.YteidpgdfocjdbaaGreatC32
import Derived.Test.YteidpgdfocjdbaaGreatC33
import Derived.Test.YteidpgdfocjdbaaGreatC36
import Derived.Test.YteidpgdfocjdbaaGreatC40
import Derived.Test.YteidpgdfocjdbaaGreatC42
set_option maxHeartbeats 8000000
set_option maxRecDepth 20000
namespace Go.Proofs.YteidpgdfocjdbaaGreat
open Go Go.RowKit Go.Stg
section
variable {P:Program} {ops:Array Oper} {I:World→Prop} {Out:Prop} {Q:Act→World→Prop}
theorem eff_calls {Out:Prop} (f:FuncId) (args:Array Value) (V:Value→Prop) (C':Value→World→Prop) {o:Oper} {C:World→Prop} {a:Act} {K:(World→Prop)→Act→Prop} {asz:Array Operand} {ts:Array TypeId}
  (hop:o.op=.call ⟨.value (.func f),asz,ts⟩) (hcall:∀(args:Array Value) w,(callFunc f args).run P w=.ok (.enter f args) w) (hargs:(asz.toList.map a.eval).toArray=args) (hV:∃v,V v)
  (hc:∀w,C w→Calls P f args w fun e w'=>∃v,e=.returned v∧V v∧C' v w') (hI:∀v w,C' v w→I w)
  (h:∀v,V v→K (C' v) (a.put o.dst v)):∃(V:Value→Prop) (R:Value→World→Prop),(∃v,V v)∧(∀w,C w→gives P o a w Out R)∧(∀v w,R v w→V v∧I w)∧∀v,V v→K (R v) (a.put o.dst v):=by
 refine⟨V,fun u w=>V u∧C' u w,hV,fun w hC=> ?_,fun u w h1=>⟨h1.1,hI u w h1.2⟩,fun u hu=> ?_⟩
 ·unfold gives;rw[run_go hop rfl hcall w,hargs];exact(hc w hC).mono fun e w' ⟨v,h1,h2,h3⟩=>by subst h1;exact⟨h2,h3⟩
 ·have e:(fun w=>V u∧C' u w)=C' u:=by
   funext w;simp[hu]
  have h':=h u hu;rw[←e]at h';exact h'
theorem ptr_class {F:List Nat} {W:World} (D:Nat→List Comp) (b:Nat):(fun w'=>∃b',Value.pointer (some ⟨b,0,none⟩)=.pointer (some ⟨b',0,none⟩)∧Scene F W (D b') w')=fun w'=>Scene F W (D b) w':=by
 funext w';apply propext;constructor
 ·rintro⟨b',e,h⟩;cases e;exact h
 ·exact fun h=>⟨b,rfl,h⟩
theorem stage_made {F:List Nat} {W:World} {cs:List Comp} (D:Nat→List Comp) (f:FuncId) (args:Array Value) {o:Oper} {rest:List Oper} {a:Act} {asx:Array Operand} {ts:Array TypeId}
  (hop:o.op=.call ⟨.value (.func f),asx,ts⟩) (hcall:∀(args:Array Value) w,(callFunc f args).run P w=.ok (.enter f args) w)
  (hw:Region.wanted o (yielded ops a.tmps)=true) (hargs:(asx.toList.map a.eval).toArray=args) (hI:∀cs w,Scene F W cs w→I w)
  (hc:∀w,Scene F W cs w→Calls P f args w fun e w'=>∃b,e=.returned (.pointer (some ⟨b,0,none⟩))∧Scene F W (D b) w')
  (h:∀b,wpStage P ops I Out Q rest (fun w'=>Scene F W (D b) w') (a.put o.dst (.pointer (some ⟨b,0,none⟩)))):
  wpStage P ops I Out Q (o::rest) (fun w'=>Scene F W cs w') a:=by
 refine stage_call_any f args (fun v=>∃b,v=.pointer (some ⟨b,0,none⟩)) (fun v w'=>∃b,v=.pointer (some ⟨b,0,none⟩)∧Scene F W (D b) w') hop hcall hw hargs ⟨_,0,rfl⟩ (fun w hC=>(hc w hC).mono fun e w' ⟨b,he,hS⟩=>⟨_,he,⟨b,rfl⟩,b,rfl,hS⟩) (fun _ w ⟨_,_,h⟩=>hI _ w h) (fun v hv=> ?_);obtain⟨b,rfl⟩:=hv;rw[ptr_class D b];exact h b
theorem eff_made {F:List Nat} {W:World} {cs:List Comp} (D:Nat→List Comp) (f:FuncId) (args:Array Value) {o:Oper} {a:Act} {K:(World→Prop)→Act→Prop} {asx:Array Operand} {ts:Array TypeId}
  (hop:o.op=.call ⟨.value (.func f),asx,ts⟩) (hcall:∀(args:Array Value) w,(callFunc f args).run P w=.ok (.enter f args) w) (hargs:(asx.toList.map a.eval).toArray=args) (hI:∀cs w,Scene F W cs w→I w)
  (hc:∀w,Scene F W cs w→Calls P f args w fun e w'=>∃b,e=.returned (.pointer (some ⟨b,0,none⟩))∧Scene F W (D b) w')
  (h:∀b,K (fun w'=>Scene F W (D b) w') (a.put o.dst (.pointer (some ⟨b,0,none⟩)))):
  ∃(V:Value→Prop) (R:Value→World→Prop),(∃v,V v)∧(∀w,Scene F W cs w→gives P o a w Out R)∧(∀v w,R v w→V v∧I w)∧∀v,V v→K (R v) (a.put o.dst v):=by
 refine eff_calls f args (fun v=>∃b,v=.pointer (some ⟨b,0,none⟩)) (fun v w'=>∃b,v=.pointer (some ⟨b,0,none⟩)∧Scene F W (D b) w') hop hcall hargs ⟨_,0,rfl⟩ (fun w hC=>(hc w hC).mono fun e w' ⟨b,he,hS⟩=>⟨_,he,⟨b,rfl⟩,b,rfl,hS⟩) (fun _ w ⟨_,_,h⟩=>hI _ w h) (fun v hv=> ?_);obtain⟨b,rfl⟩:=hv;rw[ptr_class D b];exact h b
theorem stage_lay {F:List Nat} {W:World} {cs:List Comp} (v:Nat→Value) (ob:Obj) (CC:Nat→Comp) {o:Oper} {rest:List Oper} {a:Act}
  (hv:∀s s',v s=v s'→s=s') (hw:Region.wanted o (yielded ops a.tmps)=true) (he:eff o=true) (hI:∀cs w,Scene F W cs w→I w)
  (hrun:∀w:World,Scene F W cs w→(execOp a.eval o).run P w=.ok (.value (v w.heap.size)) (w.alloc ob)) (hC:∀(w:World) b,w.heap[b]? =some ob→(CC b).on w [b])
  (h:∀b,wpStage P ops I Out Q rest (fun w'=>Scene F W (CC b::cs) w') (a.put o.dst (v b))):wpStage P ops I Out Q (o::rest) (fun w'=>Scene F W cs w') a:=
 stage_alloc v ob (fun b w'=>Scene F W (CC b::cs) w') hv hw he hrun (fun w hS=>hS.add (f:=[w.heap.size]) ((Mod.refl [] w).alloc ob) (hC _ _ (at_alloc w ob)) (by simp)) (fun _ w h=>hI _ w h) h
end
theorem scene_joinNew {F:List Nat} {W W1 w:World} {cs ds:List Comp} (h0:Scene F W cs W1) (h1:Scene [] W1 ds w):Scene F W (ds++cs) w:=by
 obtain⟨hm,fp,hh,hf⟩:=h1;exact Scene.split (h0.add (c:=Comp.all ds) (f:=fp) hm hh fun x hx=>(hf x hx).elim (fun h=>by simp at h) id)
theorem scene_blockAll {F:List Nat} {W w:World} {cs:List Comp} (i:Nat) {b:Nat} {zs:Array Value} {T:TypeId} {fr:Nat×Nat} (h:Scene F W cs w) (hi:cs[i]? =some (blockC b (.cells zs T fr))) (vs:Array Value) (hs:zs.size=vs.size):
  Scene F W (cs.set i (blockC b (.cells vs T fr))) (w.setCells b 0 vs.toList):=by
 obtain⟨f,⟨h1,hf⟩,hk⟩:=h.part i hi;subst hf;exact hk _ _ _ ⟨laid_all h1 hs,rfl⟩ (Mod.setCells (.inl (by simp)) _ _ _ (Mod.refl _ w)) (fun x hx=>.inl hx)
theorem wp_got5 {P:Program} {c:Code} {Q:Exit→Act→World→Prop} {a:Act} {w:World} (R:Nat→Nat→Nat→Nat→Nat→World→Prop) (FR:Nat→Nat→Nat→Nat→Nat→Act)
  (h:c.wp P (fun e a' w'=>e=.normal∧∃p q r s t,a'=FR p q r s t∧R p q r s t w') a w) (hk:∀p q r s t w',R p q r s t w'→Q .normal (FR p q r s t) w'):c.wp P Q a w:=
 wp_mono h (by rintro e a' w' ⟨rfl,p,q,r,s,t,rfl,h⟩;exact hk p q r s t w' h)
end Go.Proofs.YteidpgdfocjdbaaGreat
namespace Go.Proofs.YteidpgdfocjdbaaGreat
open Go Go.RowKit Go.Stg
def hcOf (f:Cf):HC:=⟨f.n.toNat,f.first,f.size,⟨f.b,f.o,f.r⟩,f.cap⟩
theorem hcOf_ok {f:Cf} (h:cfOk f) (h1:0≤f.first∧f.first≤4294967295) (h2:f.b≤9223372036854775807∧f.o≤9223372036854775807∧f.r≤9223372036854775807):(hcOf f).Ok:=by
 unfold cfOk at h;refine⟨?_,?_,h1.2,?_,?_,?_,?_,?_⟩<;>unfold hcOf<;>simp only[Qt.Q.pos]<;>omega
theorem newS_live (c:HC):liveE c (newS c)=[]:=by
 unfold liveE;rw[liveL_eq,List.filterMap_eq_nil_iff];intro j _;unfold liveAt newS Tb.start;simp only;rw[if_neg];simp[Tb.slotN,Tb.fresh,List.getD_eq_getElem?_getD,List.getElem?_replicate];split<;>simp
theorem newS_obs (c:HC):obs c (newS c)=[]:=by
 have h1:usedH c (newS c)=[]:=by unfold usedH;rw[newS_live];rfl
 have h2:=obs_used c (newS c);rw[h1]at h2;exact List.map_eq_nil_iff.1 h2
theorem newS_used (c:HC):usedH c (newS c)=[]:=by unfold usedH;rw[newS_live];rfl
theorem newS_has (c:HC) (p:Int):hasH c (newS c) p=Qt.Q.zero:=by
 unfold hasH hasOf;rw[newS_live];rfl
theorem newS_inv {c:HC} (hc:c.Ok):HInv c 0 (newS c):=by
 have hsl:∀j,(Tb.slotN (newS c).T.g.S j).2=false:=fun j=>by
  unfold newS Tb.start;simp[Tb.slotN,Tb.fresh,List.getD_eq_getElem?_getD,List.getElem?_replicate];split<;>simp
 have hmem:∀j,memH (newS c) j=[]:=fun j=>by
  unfold memH newS;simp only[List.getD_eq_getElem?_getD,List.getElem?_replicate];split<;>rfl
 refine⟨Tb.TInv.start c.n c.first,Bw.LInv.nil _,Nat.le_refl _,by simp[newS],by simp[newS],Nat.le_refl _,by simp[newS],Nat.le_refl _,?_,?_,by simp[newS],?_,?_,?_,by simp[newS],?_,fun p=>.inl rfl⟩
 ·rw[newS_used];exact⟨by simp,List.Pairwise.nil⟩
 ·rw[newS_live];simp
 ·intro j _ h;rw[hsl]at h;cases h
 ·intro j b hb;rw[hmem]at hb;cases hb
 ·intro j _;exact hmem j
 ·intro p;rw[newS_has];have:=hc.lim;unfold Qt.Q.pos at this;unfold Qt.Q.zero;simp only;omega
theorem ar_new {size:Int} (h:0≤size):ArIs size [] (List.replicate size.toNat 0):=
 ⟨by simp;omega,fun b hb=>by rw[List.eq_of_mem_replicate hb];omega,by simp,fun x _=>by
  rw[List.getD_eq_getElem?_getD,List.getElem?_replicate];split<;>rfl⟩
theorem st_new {w:World} {b:Nat} (h:w.heap[b]? =some (.map #[] 0)):(stC b (fun _=>0)).on w [b]:=⟨⟨_,_,h,trivial,fun k=>by simp[mget]⟩,rfl⟩
section
variable {F:List Nat} {W w:World} {cs:List Comp} (hS:Scene F W cs w)
include hS
theorem tynew_sc:Calls Tryz.prog 20 #[] w fun e w'=>∃b,e=.returned (.pointer (some ⟨b,0,none⟩))∧Scene F W (Ty.regC 135 b []::cs) w':=
 (Ty.new_ok w).mono fun e w' ⟨he,hw⟩=>⟨_,he,by
  subst hw;exact hS.add (f:=[w.heap.size]++([]++([]++[]))) ((Mod.refl [] w).alloc _) (Ty.reg_fresh 135 (at_alloc w _)) (by simp)⟩
theorem bnew_sc:Calls Tryz.prog 21 #[] w fun e w'=>∃b,e=.returned (.pointer (some ⟨b,0,none⟩))∧Scene F W (Bw.ledC b []::cs) w':=
 (Bw.new_ok w).mono fun e w' ⟨he,hm,hl⟩=>⟨_,he,hS.add hm hl (by simp)⟩
theorem qnew_sc (l:Qt.Q) (hl:l.pos):Calls Tryz.prog 22 #[.agg #[.int .i64 l.b,.int .i64 l.o,.int .i64 l.r]] w fun e w'=>∃b,e=.returned (.pointer (some ⟨b,0,none⟩))∧Scene F W (meterC b l (fun _=>Qt.Q.zero)::cs) w':=
 (Qt.New_any l w (by unfold Qt.Q.pos at hl;unfold Qt.Q.i64;omega)).mono fun e w' ⟨b,he,hm,hb,hM⟩=>⟨_,he,hS.add (f:=[b]) hm ⟨none,hM,rfl⟩ (by simpa using hb)⟩
end
theorem hnew_ok {F:List Nat} {W w:World} {cs:List Comp} (hS:Scene F W cs w) (f:Cf) (hf:cfOk f) (h1:0≤f.first∧f.first≤4294967295) (h2:f.b≤9223372036854775807∧f.o≤9223372036854775807∧f.r≤9223372036854775807):
  Calls Tryz.prog 5 #[.agg (cfA f)] w fun e w'=>∃a:HA,e=.returned (.tuple #[.pointer (some ⟨a.hb,0,none⟩),.int .i64 0])∧Scene F W (hpA a (hcOf f) (newS (hcOf f))::cs) w':=by
 have hc:=hcOf_ok hf h1 h2;have hck:=Lib.hid (check_ok f);rw[cfE_ok hf]at hck;obtain⟨n,size,first,cap,b,o,r,frames,stack⟩:=f;have hfo:=hf;unfold cfOk at hf;simp only at hf h1 h2;obtain⟨n,rfl⟩:=Int.eq_ofNat_of_zero_le hf.1.1;have hlim:(⟨b,o,r⟩:Qt.Q).pos:=hc.lim;unfold cfA at hck⊢;simp only at hck⊢;have hS1:=Lib.hid (hS.alloc (.cells #[.int .i64 n,.int .i64 size,.int .u32 first,.int .i64 cap,.int .i64 b,.int .i64 o,.int .i64 r,.int .i64 frames,.int .i64 stack] 35));have hfH:=Lib.hid hf;have hlimH:=Lib.hid hlim;have hcH:=Lib.hid hc;clear hS hf hlim hc hfo h2;go_enter Tryz.func5,Tryz.ntmps5;go_wp2_with fail;refine(hck.out _).mono ?_;rintro e w1 ⟨rfl,hm⟩;have hS2:=Lib.hid (hS1.out.then hm);have c1:=cells_of (hS2.out.block 0 rfl);clear hm hck hS1;go_wp2_with fail;have k1:=GW.cells (S:=[]) (hS2.out.block 0 rfl) (by simp);apply wp_got5 (fun rt lb mb sm hb w'=>Scene [] w1 [blockC hb (.cells #[.pointer none,.pointer (some ⟨rt,0,none⟩),.pointer none,.pointer (some ⟨lb,0,none⟩),.pointer (some ⟨mb,0,none⟩),.pointer none,.map (some sm)] 81 (0,0)),stC sm (fun _=>0),meterC mb ⟨b,o,r⟩ (fun _=>Qt.Q.zero),Bw.ledC lb [],Ty.regC 135 rt []] w')
 ·refine wp_region_float 5 _ (fun w'=>∃x:GW [] w1,w'=x.1) (fun w'=>Scene [] w1 [] w') (by kernel_rfl) rfl rfl (by kernel_rfl) (by kernel_rfl) (fun _ h=>InGW.of h.mod) (Scene.empty w1).drew ?_;dsimp only[List.getElem_toArray,List.getElem_cons_succ,List.getElem_cons_zero];refine float_eff (by decide) rfl rfl ?A1 rfl (by simp) ?B1
  case A1=>
   refine eff_made (fun b=>[Ty.regC 135 b []]) 20 #[] rfl Tryz.call20 rfl (fun _ _ h=>InGW.of h.mod) (fun w' hw=>tynew_sc hw) (fun rt=> ?_);simp only[Act.put,sA,sB,sC];refine float_eff (by decide) rfl rfl ?A2 rfl (by simp) ?B2
   case A2=>
    refine eff_made (fun b=>[Bw.ledC b [],Ty.regC 135 rt []]) 21 #[] rfl Tryz.call21 rfl (fun _ _ h=>InGW.of h.mod) (fun w' hw=>bnew_sc hw) (fun lb=> ?_);simp only[Act.put,sA,sB,sC];refine float_quiet 2 (by kernel_rfl) (by decide) ?_;simp only[tA,tB,tC,tD,Nat.reduceAdd];(repeat go_big_quiet_step (fail));refine wpQuiet_nil ?_;refine float_eff (by decide) rfl rfl ?A3 rfl (by simp) ?B3
    case A3=>
     refine eff_made (fun mb=>[meterC mb ⟨b,o,r⟩ (fun _=>Qt.Q.zero),Bw.ledC lb [],Ty.regC 135 rt []]) 22 #[.agg #[.int .i64 b,.int .i64 o,.int .i64 r]] rfl Tryz.call22 rfl (fun _ _ h=>InGW.of h.mod) (fun w' hw=>qnew_sc hw ⟨b,o,r⟩ hlimH.out) (fun mb=> ?_);simp only[Act.put,sA,sB,sC];refine float_here ?_;refine stage_lay (fun b=>.map (some b)) (.map #[] 0) (fun b=>stC b (fun _=>0)) (by intro s s' h;simpa using h) rfl rfl (fun _ _ h=>InGW.of h.mod) (fun w' hw=>by kernel_rfl) (fun w' b h=>st_new h) (fun sm=> ?_);simp only[Act.put,sA,sB,sC];refine stage_quiet 1 (by kernel_rfl) ?_;simp only[tA,tB,tC,tD];(repeat go_big_quiet_step (fail));refine wpQuiet_nil ?_;refine stage_lay (fun b=>.pointer (some ⟨b,0,none⟩)) (.cells #[.pointer none,.pointer (some ⟨rt,0,none⟩),.pointer none,.pointer (some ⟨lb,0,none⟩),.pointer (some ⟨mb,0,none⟩),.pointer none,.map (some sm)] 81 (0,0)) (fun b=>blockC b (.cells #[.pointer none,.pointer (some ⟨rt,0,none⟩),.pointer none,.pointer (some ⟨lb,0,none⟩),.pointer (some ⟨mb,0,none⟩),.pointer none,.map (some sm)] 81 (0,0))) (by intro s s' h;simpa using h) rfl rfl (fun _ _ h=>InGW.of h.mod) (fun w' hw=>by kernel_rfl) (fun w' b h=>⟨h,rfl⟩) (fun hb=> ?_);simp only[Act.put,sA,sB,sC];refine stage_quiet 1 (by kernel_rfl) ?_;simp only[tA,tB,tC,tD];(repeat go_big_quiet_step (fail));refine wpQuiet_nil ?_;refine stage_nil fun w' hw'=> ?_
     exact⟨trivial,rt,lb,mb,sm,hb,rfl,hw'⟩
    case B3=>
     simp only[Nat.reduceSub,List.eraseIdx_cons_succ,List.eraseIdx_cons_zero];refine stage_lay (fun b=>.map (some b)) (.map #[] 0) (fun b=>stC b (fun _=>0)) (by intro s s' h;simpa using h) rfl rfl (fun _ _ h=>InGW.of h.mod) (fun w' hw=>by kernel_rfl) (fun w' b h=>st_new h) (fun sm=> ?_);simp only[Act.put,sA,sB,sC];refine stage_made (fun mb=>[meterC mb ⟨b,o,r⟩ (fun _=>Qt.Q.zero),stC sm (fun _=>0),Bw.ledC lb [],Ty.regC 135 rt []]) 22 #[.agg #[.int .i64 b,.int .i64 o,.int .i64 r]] rfl Tryz.call22 rfl rfl (fun _ _ h=>InGW.of h.mod) (fun w' hw=>qnew_sc hw ⟨b,o,r⟩ hlimH.out) (fun mb=> ?_);simp only[Act.put,sA,sB,sC];refine stage_quiet 1 (by kernel_rfl) ?_;simp only[tA,tB,tC,tD];(repeat go_big_quiet_step (fail));refine wpQuiet_nil ?_;refine stage_lay (fun b=>.pointer (some ⟨b,0,none⟩)) (.cells #[.pointer none,.pointer (some ⟨rt,0,none⟩),.pointer none,.pointer (some ⟨lb,0,none⟩),.pointer (some ⟨mb,0,none⟩),.pointer none,.map (some sm)] 81 (0,0)) (fun b=>blockC b (.cells #[.pointer none,.pointer (some ⟨rt,0,none⟩),.pointer none,.pointer (some ⟨lb,0,none⟩),.pointer (some ⟨mb,0,none⟩),.pointer none,.map (some sm)] 81 (0,0))) (by intro s s' h;simpa using h) rfl rfl (fun _ _ h=>InGW.of h.mod) (fun w' hw=>by kernel_rfl) (fun w' b h=>⟨h,rfl⟩) (fun hb=> ?_);simp only[Act.put,sA,sB,sC];refine stage_quiet 1 (by kernel_rfl) ?_;simp only[tA,tB,tC,tD];(repeat go_big_quiet_step (fail));refine wpQuiet_nil ?_;refine stage_nil fun w' hw'=> ?_
     exact⟨trivial,rt,lb,mb,sm,hb,rfl,(hw'.out 2 rfl).swap⟩
   case B2=>
    simp only[List.eraseIdx_cons_succ,List.eraseIdx_cons_zero];refine stage_lay (fun b=>.map (some b)) (.map #[] 0) (fun b=>stC b (fun _=>0)) (by intro s s' h;simpa using h) rfl rfl (fun _ _ h=>InGW.of h.mod) (fun w' hw=>by kernel_rfl) (fun w' b h=>st_new h) (fun sm=> ?_);simp only[Act.put,sA,sB,sC];refine stage_made (fun lb=>[Bw.ledC lb [],stC sm (fun _=>0),Ty.regC 135 rt []]) 21 #[] rfl Tryz.call21 rfl rfl (fun _ _ h=>InGW.of h.mod) (fun w' hw=>bnew_sc hw) (fun lb=> ?_);simp only[Act.put,sA,sB,sC];refine stage_quiet 2 (by kernel_rfl) ?_;simp only[tA,tB,tC,tD];(repeat go_big_quiet_step (fail));refine wpQuiet_nil ?_;refine stage_made (fun mb=>[meterC mb ⟨b,o,r⟩ (fun _=>Qt.Q.zero),Bw.ledC lb [],stC sm (fun _=>0),Ty.regC 135 rt []]) 22 #[.agg #[.int .i64 b,.int .i64 o,.int .i64 r]] rfl Tryz.call22 rfl rfl (fun _ _ h=>InGW.of h.mod) (fun w' hw=>qnew_sc hw ⟨b,o,r⟩ hlimH.out) (fun mb=> ?_);simp only[Act.put,sA,sB,sC];refine stage_quiet 1 (by kernel_rfl) ?_;simp only[tA,tB,tC,tD];(repeat go_big_quiet_step (fail));refine wpQuiet_nil ?_;refine stage_lay (fun b=>.pointer (some ⟨b,0,none⟩)) (.cells #[.pointer none,.pointer (some ⟨rt,0,none⟩),.pointer none,.pointer (some ⟨lb,0,none⟩),.pointer (some ⟨mb,0,none⟩),.pointer none,.map (some sm)] 81 (0,0)) (fun b=>blockC b (.cells #[.pointer none,.pointer (some ⟨rt,0,none⟩),.pointer none,.pointer (some ⟨lb,0,none⟩),.pointer (some ⟨mb,0,none⟩),.pointer none,.map (some sm)] 81 (0,0))) (by intro s s' h;simpa using h) rfl rfl (fun _ _ h=>InGW.of h.mod) (fun w' hw=>by kernel_rfl) (fun w' b h=>⟨h,rfl⟩) (fun hb=> ?_);simp only[Act.put,sA,sB,sC];refine stage_quiet 1 (by kernel_rfl) ?_;simp only[tA,tB,tC,tD];(repeat go_big_quiet_step (fail));refine wpQuiet_nil ?_;refine stage_nil fun w' hw'=> ?_
    exact⟨trivial,rt,lb,mb,sm,hb,rfl,(hw'.out 3 rfl).swap⟩
  case B1=>
   simp only[Nat.reduceSub,List.eraseIdx_cons_succ,List.eraseIdx_cons_zero];refine stage_lay (fun b=>.map (some b)) (.map #[] 0) (fun b=>stC b (fun _=>0)) (by intro s s' h;simpa using h) rfl rfl (fun _ _ h=>InGW.of h.mod) (fun w' hw=>by kernel_rfl) (fun w' b h=>st_new h) (fun sm=> ?_);simp only[Act.put,sA,sB,sC];refine stage_made (fun rt=>[Ty.regC 135 rt [],stC sm (fun _=>0)]) 20 #[] rfl Tryz.call20 rfl rfl (fun _ _ h=>InGW.of h.mod) (fun w' hw=>tynew_sc hw) (fun rt=> ?_);simp only[Act.put,sA,sB,sC];refine stage_made (fun lb=>[Bw.ledC lb [],Ty.regC 135 rt [],stC sm (fun _=>0)]) 21 #[] rfl Tryz.call21 rfl rfl (fun _ _ h=>InGW.of h.mod) (fun w' hw=>bnew_sc hw) (fun lb=> ?_);simp only[Act.put,sA,sB,sC];refine stage_quiet 2 (by kernel_rfl) ?_;simp only[tA,tB,tC,tD];(repeat go_big_quiet_step (fail));refine wpQuiet_nil ?_;refine stage_made (fun mb=>[meterC mb ⟨b,o,r⟩ (fun _=>Qt.Q.zero),Bw.ledC lb [],Ty.regC 135 rt [],stC sm (fun _=>0)]) 22 #[.agg #[.int .i64 b,.int .i64 o,.int .i64 r]] rfl Tryz.call22 rfl rfl (fun _ _ h=>InGW.of h.mod) (fun w' hw=>qnew_sc hw ⟨b,o,r⟩ hlimH.out) (fun mb=> ?_);simp only[Act.put,sA,sB,sC];refine stage_quiet 1 (by kernel_rfl) ?_;simp only[tA,tB,tC,tD];(repeat go_big_quiet_step (fail));refine wpQuiet_nil ?_;refine stage_lay (fun b=>.pointer (some ⟨b,0,none⟩)) (.cells #[.pointer none,.pointer (some ⟨rt,0,none⟩),.pointer none,.pointer (some ⟨lb,0,none⟩),.pointer (some ⟨mb,0,none⟩),.pointer none,.map (some sm)] 81 (0,0)) (fun b=>blockC b (.cells #[.pointer none,.pointer (some ⟨rt,0,none⟩),.pointer none,.pointer (some ⟨lb,0,none⟩),.pointer (some ⟨mb,0,none⟩),.pointer none,.map (some sm)] 81 (0,0))) (by intro s s' h;simpa using h) rfl rfl (fun _ _ h=>InGW.of h.mod) (fun w' hw=>by kernel_rfl) (fun w' b h=>⟨h,rfl⟩) (fun hb=> ?_);simp only[Act.put,sA,sB,sC];refine stage_quiet 1 (by kernel_rfl) ?_;simp only[tA,tB,tC,tD];(repeat go_big_quiet_step (fail));refine wpQuiet_nil ?_;refine stage_nil fun w' hw'=> ?_
   exact⟨trivial,rt,lb,mb,sm,hb,rfl,(hw'.out 4 rfl).swap⟩
 intro rt lb mb sm hb w2 hw2;have hS3:=Lib.hid (scene_joinNew hS2.out hw2);simp only[List.cons_append,List.nil_append]at hS3;have c1:=cells_of (hS3.out.block 5 rfl);have c2:=cells_of (hS3.out.block 0 rfl);clear k1 hS2 hw2;go_wp2_with fail;refine(arnew_ok hS3.out size (by have:=hfH.out;omega) (by have:=hfH.out;omega)).mono ?_;rintro e w3 ⟨ar,rfl,hS4⟩;have hS4:=Lib.hid hS4;have c2:=cells_of (hS4.out.block 1 rfl);have f2:=frozen_of (hS4.out.block 1 rfl);have hS5:=Lib.hid (hS4.out.blockSet 1 rfl 0 (.pointer (some ⟨ar,0,none⟩)));have c3:=cells_of (hS5.out.block 6 rfl);clear hS3 c1;go_wp2_with fail;refine(Tb.tnew_ok n first (by have:=hfH.out;omega) (by have:=hfH.out;omega) h1.2 hS5.out).mono ?_;rintro e w4 ⟨tb,ev,bt,pb,sl,rfl,hS6⟩;have hS6:=Lib.hid hS6;have c2:=cells_of (hS6.out.block 2 rfl);have f2:=frozen_of (hS6.out.block 2 rfl);have hS7:=Lib.hid (hS6.out.blockSet 2 rfl 2 (.pointer (some ⟨tb,0,none⟩)));have c3:=cells_of (hS7.out.block 7 rfl);clear hS4 hS5;go_wp2_with fail;refine(lognew_ok cap (by have:=hfH.out;omega) (by have:=hfH.out;omega) _).mono ?_;rintro e w5 ⟨rfl,rfl⟩;have hS8:=Lib.hid (hS7.out.add (c:=logC (w4.setCell ⟨hb,2,none⟩ (.pointer (some ⟨tb,0,none⟩))).heap.size cap [] []) (f:=_) ((Mod.refl [] _).alloc _) (log_fresh cap (at_alloc _ _)) (by simp));have c2:=cells_of (hS8.out.block 3 rfl);have f2:=frozen_of (hS8.out.block 3 rfl);generalize(w4.setCell ⟨hb,2,none⟩ (.pointer (some ⟨tb,0,none⟩))).alloc (.cells #[.int .i64 cap,.slice none 0 0,.slice none 0 0,.int .u64 0,.map none,.map none] 156)=w6 at*;generalize(w4.setCell ⟨hb,2,none⟩ (.pointer (some ⟨tb,0,none⟩))).heap.size=gb at*;have hS9:=Lib.hid (hS8.out.blockSet 3 rfl 5 (.pointer (some ⟨gb,0,none⟩)));clear hS6 hS7 hS8 c3;go_wp2_with fail;go_ret2;refine⟨⟨hb,ar,rt,tb,lb,mb,gb,sm,ev,bt,pb,sl⟩,rfl,?_⟩;have h9:=(((((((((hS9.out.out 4 rfl).out 1 rfl).out 5 rfl).out 6 rfl).out 4 rfl).out 7 rfl).out 6 rfl).out 7 rfl).erase 8);exact hp_close (a:=⟨hb,ar,rt,tb,lb,mb,gb,sm,ev,bt,pb,sl⟩) (c:=hcOf ⟨n,size,first,cap,b,o,r,frames,stack⟩) (s':=newS (hcOf ⟨n,size,first,cap,b,o,r,frames,stack⟩)) (newS_used _).symm (fun p=>(newS_has _ p).symm) (by rw[newS_obs];exact ar_new (by have:=hfH.out;simp only[hcOf];omega)) h9
end Go.Proofs.YteidpgdfocjdbaaGreat
namespace Go.Proofs.YteidpgdfocjdbaaGreat
open Go Go.RowKit Go.Stg
def awT:Ty.Ty:=(0,[(4,0)])
def awF:Cf:=⟨2,64,1,20,64,2,2,1,0⟩
def awC:HC:=hcOf awF
def aw1:HS:=defS (newS awC) awT
def aw2:HS:=(startD aw1 1).2
def aw3:HS:=(startD aw2 2).2
def awH:Int:=72057594054705152
def aw4a:HS:={aw3 with T:=Tb.issT 1 aw3.T 1 1 0 16 0,mem:=aw3.mem.set (Tb.pickS aw3.T.g.F 0) (List.replicate 8 0)}
def aw4:HS:=logA awC aw4a ⟨1,1,awH,1,0⟩
def aw5:HS:=(opShare awC aw4 1 awH 2).2
def aw6:HS:=(opSet awC aw5 1 awH 0 5).2
def aw7:HS:=(opRelease awC aw6 2 awH).2
def aw8:HS:=(opGet awC aw7 2 awH 0).2
theorem awF_ok:cfOk awF:=by unfold cfOk awF;simp only;omega
theorem awC_ok:awC.Ok:=hcOf_ok awF_ok (by unfold awF;simp only;omega) (by unfold awF;simp only;omega)
theorem free_none {c:HC} (hc:c.Ok) {s:HS} (h:liveE c s=[]):freeH c s=gap 0 c.size:=by
 unfold freeH usedH;rw[h];exact frOf_nil hc.s1
theorem aw_reg:Ty.regTag (newS awC).R awT=1∧Ty.regErr (newS awC).R awT=0:=⟨by kernel_rfl,by kernel_rfl⟩
theorem aw_start1:(startD aw1 1).1=0:=by kernel_rfl
theorem aw_start2:(startD aw2 2).1=0:=by kernel_rfl
theorem aw_free:freeH awC aw3=[(0,64)]:=by
 rw[free_none awC_ok (by show liveE awC (newS awC)=[];exact newS_live awC)];kernel_rfl
theorem aw_allocE:allocE awC aw3 1 1=0:=by
 unfold allocE;rw[aw_free];kernel_rfl
theorem aw_allocX:allocX awC aw3 1=(0,16):=by
 unfold allocX;rw[aw_free];kernel_rfl
theorem aw_allocH:allocH awC aw3 1 1 0=awH:=by
 unfold allocH;rw[if_pos aw_allocE];kernel_rfl
theorem aw_alloc:opAlloc awC aw3 1 1 0=(0,aw4):=by
 have h1:allocS awC aw3 1 1 0=aw4a:=by
  unfold allocS;rw[if_pos aw_allocE,aw_allocX];kernel_rfl
 have h2:act awC aw3 1 1 awH (u64 1) (0,aw4a)=(0,aw4):=by kernel_rfl
 unfold opAlloc;rw[aw_allocH,aw_allocE,h1];exact h2
theorem aw_allocHo:opAllocH awC aw3 1 1 0=awH:=by
 unfold opAllocH;rw[aw_alloc,if_pos rfl,aw_allocH]
theorem aw_share:(opShare awC aw4 1 awH 2).1=0:=by kernel_rfl
theorem aw_set:(opSet awC aw5 1 awH 0 5).1=14:=by kernel_rfl
theorem aw_release:(opRelease awC aw6 2 awH).1=0:=by kernel_rfl
theorem aw_get:(opGet awC aw7 2 awH 0).1=13:=by kernel_rfl
theorem aw_set2:(opSet awC aw8 1 awH 0 5).1=0:=by kernel_rfl
theorem aw_inv3:HInv awC 2 aw3:=inv_start (inv_start (inv_def (newS_inv awC_ok) awT) 1) 2
theorem aw_inv4:HInv awC 4 aw4:=by
 have:=inv_opAlloc awC_ok aw_inv3 1 1 0;rw[aw_alloc]at this;exact this
theorem awH_range:0≤awH∧awH≤18446744073709551615:=by unfold awH;omega
theorem aw_inv5:HInv awC 6 aw5:=inv_opShare awH_range.1 awH_range.2 aw_inv4 1 2
theorem aw_inv6:HInv awC 8 aw6:=inv_opSet awH_range.1 awH_range.2 awC_ok aw_inv5 1 0 5
theorem aw_inv7:HInv awC 10 aw7:=inv_opRelease awH_range.1 awH_range.2 aw_inv6 2
theorem aw_inv8:HInv awC 12 aw8:=inv_opGet awH_range.1 awH_range.2 awC_ok aw_inv7 2 0
end Go.Proofs.YteidpgdfocjdbaaGreat
namespace Go.Proofs.YteidpgdfocjdbaaGreat
open Go Go.RowKit Go.Stg
def getW (s:HS) (p o i:Int):Int:=if fieldE s p o 1 i=0 then getV s o i else 0
theorem get_c {F:List Nat} {W w:World} {cs:List Comp} {a:HA} {c:HC} {k:Nat} {s:HS} (hc:c.Ok) (hI:HInv c k s) (hk:k≤1000) {p o i:Int} (o0:0≤o) (o1:o≤18446744073709551615) {e0:Comp} {bo bp bh bi bv:Nat}
  (hS:Scene F W (hpA a c s::e0::blockC bv (.cells #[.int .u64 0] 49 (0,0))::blockC bi (.cells #[.int .i64 i] 3 (0,0))::blockC bo (.cells #[.int .u64 o] 50 (0,0))::blockC bp (.cells #[.int .i64 p] 3 (0,0))::blockC bh (.cells #[.pointer (some ⟨a.hb,0,none⟩)] 27 (0,0))::cs) w):
  Calls Tryz.prog 58 #[.pointer (some ⟨bh,0,none⟩),.pointer (some ⟨bp,0,none⟩),.pointer (some ⟨bo,0,none⟩),.pointer (some ⟨bi,0,none⟩),.pointer (some ⟨bv,0,none⟩)] w fun e w'=>e=.returned (.int .i64 (fieldE s p o 1 i))∧Scene F W (hpA a c s::e0::blockC bv (.cells #[.int .u64 (getW s p o i)] 49 (0,0))::blockC bi (.cells #[.int .i64 i] 3 (0,0))::blockC bo (.cells #[.int .u64 o] 50 (0,0))::blockC bp (.cells #[.int .i64 p] 3 (0,0))::blockC bh (.cells #[.pointer (some ⟨a.hb,0,none⟩)] 27 (0,0))::cs) w':=by
 obtain⟨B,hB,hS0⟩:=hp_open hS;have hfi:=Lib.hid (field_ok hc hI hk hS0 p o 1 i o0 o1);have c1:=cells_of (hS0.block 10 rfl);have c2:=cells_of (hS0.block 11 rfl);have c3:=cells_of (hS0.block 12 rfl);have c4:=cells_of (hS0.block 13 rfl);have hS1:=Lib.hid hS0;have hBH:=Lib.hid hB;by_cases hE:fieldE s p o 1 i=0
 ·obtain⟨hacc,hty,hpe,hk6⟩:=fieldE_zero hc hI hE;obtain⟨off,n,hpo,hpn,hwo,hpfit⟩:=place_in hty hpe hk6;obtain⟨j,xo,xl,hj,hjn,hlv,hent,hxo,hxl,hby,hmx,hms,hus,hob⟩:=ob_at hI (acc_res hacc);have hms':((memH s j).length:Int)=Ty.sizeT (tyH s o).1 (tyH s o).2:=hms;have hgw:getW s p o i=little ((B.drop (xo+off)).take n):=by
   unfold getW getV;rw[if_pos hE,hpo,hpn,hby];unfold cutB;rw[Int.toNat_natCast,Int.toNat_natCast];have hu:=hI.uok;rw[←obs_used]at hu;have:=hB.read hu hob (p:=off) (n:=n) (by simp only;omega) (by simp only;omega);simp only[Int.toNat_natCast]at this;rw[this]
  have hst:=Lib.hid fun w' f' (h':(arC a.ar c.size (usedH c s) B).on w' f')=>arload_ok h' hus off n (by omega) hwo
  rw[←hgw]at hst;generalize getW s p o i=G at*;have hEH:=Lib.hid hE;have hxoH:=Lib.hid hxo;have hxlH:=Lib.hid hxl;have hpoH:=Lib.hid (And.intro hpo hpn);clear hS hS0 hB hE hacc hty hpe hk6 hpo hpn hpfit hj hlv hent hxo hxl hby hmx hms hms' hus hob hgw;go_enter Tryz.func58,Tryz.ntmps58;go_wp2_with fail;refine hfi.out.mono ?_;rintro e w1 ⟨xh,xw,xt,xf,xn,p1,p2,p3,rfl,hm1,hz⟩;obtain⟨hz1,hz2⟩:=hz hEH.out;have hxf:xf=xo:=by rw[←hxoH.out,hz1]
  have hxn:xn=xl:=by rw[←hxlH.out,hz1]
  have hp1:p1=off:=by rw[←hpoH.out.1,hz2]
  have hp2:p2=n:=by rw[←hpoH.out.2,hz2]
  subst hxf hxn hp1 hp2;rw[hEH.out];have hS2:=(((hS1.out.then hm1).alloc (.cells #[.int .u64 xh,.int .i64 xw,.int .i64 xt,.int .i64 xo,.int .i64 xl] 119)).behind.alloc (.cells #[.int .i64 off,.int .i64 n,.int .i64 p3] 121)).behind;rw[size_alloc]at hS2;have hS2:=Lib.hid hS2;clear hm1 hS1 hz hz1 hz2 hfi c1 c2 c3 c4 hxoH hxlH hpoH;go_wp2_with fail;generalize w1.heap.size=bx at*;generalize(w1.alloc (.cells #[.int .u64 xh,.int .i64 xw,.int .i64 xt,.int .i64 xo,.int .i64 xl] 119)).alloc (.cells #[.int .i64 off,.int .i64 n,.int .i64 p3] 121)=W1 at*;obtain⟨fv,⟨hbv,rfl⟩,hput,hne⟩:=hS2.out.partB 11 rfl;have k1:=GW.cells (S:=[bv]) (hS2.out.block 0 rfl) (hne 0 _ _ rfl);have k2:=GW.cells (S:=[bv]) (hS2.out.block 8 rfl) (hne 8 _ _ rfl);have k3:=GW.cells (S:=[bv]) (hS2.out.block 9 rfl) (hne 9 _ _ rfl);have k5:=GW.cells (S:=[bv]) (hS2.out.block 15 rfl) (hne 14 _ _ rfl);have hlH:=Lib.hid fun w' (hm:Mod [] W1 w')=>hst.out w' _ ((hS2.out.then hm).part 1 rfl).choose_spec.1
  have hbvH:=Lib.hid hbv;clear hput hne hst hbv;refine wp_region_part [bv] (by kernel_rfl) (by kernel_rfl) ?_;refine stage_quiet 10 (by kernel_rfl) ?_;simp only[tA,tB,tC,tD];(repeat go_big_quiet_step (fail));refine wpQuiet_nil ?_;refine stage_look 59 #[.pointer (some ⟨a.ar,0,none⟩),.agg #[.int .i64 xo,.int .i64 xl],.int .i64 off,.int .i64 n] (.tuple #[.int .u64 G,.int .i64 0]) rfl Tryz.call59 rfl rfl hlH.out ?_;simp only[Act.put,sA,sB,sC];refine stage_quiet 3 (by kernel_rfl) ?_;simp only[tA,tB,tC,tD];(repeat go_big_quiet_step (fail));refine wpQuiet_nil ?_;refine stage_set (p:=⟨bv,0,none⟩) (u:=.int .u64 G) (fun w'=>w'.setCell ⟨bv,0,none⟩ (.int .u64 G)) (fun w'=>∃w0,Mod [] W1 w0∧w'=w0.setCell ⟨bv,0,none⟩ (.int .u64 G)) rfl rfl rfl rfl rfl (fun w' hw=> ?_) (fun w' hw=>⟨w',hw,rfl⟩) (fun w' ⟨w0,hw,e⟩=> ?_) ?_
  ·have d1:=cells_of (hw.at hbvH.out (by simp));have d2:=frozen_of (hw.at hbvH.out (by simp));clear k1 k2 k3 k5 hw;go_simp
  ·subst e;exact InGW.of ((hw.mono (by simp)).setCell (.inl (by simp)) _)
  refine stage_quiet 1 (by kernel_rfl) ?_;simp only[tA,tB,tC,tD];(repeat go_big_quiet_step (fail));refine wpQuiet_nil ?_;refine stage_nil fun w2 hw2=> ?_
  obtain⟨w0,hm0,rfl⟩:=hw2;have hS3:=Lib.hid ((((hS2.out.then hm0).blockSet 11 rfl 0 (.int .u64 G)).erase 8).erase 8);clear k1 k2 k3 k5 hlH hm0 hS2;go_wp2_with fail;go_ret;exact⟨by rw[hEH.out];rfl,hp_shut hBH.out hS3.out⟩
 ·have hfd:getW s p o i=0:=by unfold getW;rw[if_neg hE]
  rw[hfd];generalize hEg:fieldE s p o 1 i=E at*;have hne:(E != 0)=true:=by simpa using hE
  have hEgH:=Lib.hid hEg;clear hS hS0 hB hfd hE hEg;go_enter Tryz.func58,Tryz.ntmps58;go_wp2_with fail;refine hfi.out.mono ?_;rintro e w1 ⟨xh,xw,xt,xf,xn,p1,p2,p3,rfl,hm1,_⟩;rw[hEgH.out];have hS2:=Lib.hid (hS1.out.then (((Mod.refl [] w1).alloc (.cells #[.int .u64 xh,.int .i64 xw,.int .i64 xt,.int .i64 xf,.int .i64 xn] 119)).alloc (.cells #[.int .i64 p1,.int .i64 p2,.int .i64 p3] 121) |> hm1.nil_then));clear hm1 hS1 hfi c1 c2 c3 c4;go_wp2_with fail;go_ret;exact⟨rfl,hp_shut hBH.out hS2.out⟩
theorem get_op {F:List Nat} {W w:World} {cs:List Comp} {a:HA} {c:HC} {k:Nat} {s:HS} (hc:c.Ok) (hI:HInv c k s) (hk:k≤900) {p o i:Int} (o0:0≤o) (o1:o≤18446744073709551615) (hS:Scene F W (hpA a c s::cs) w):
  Calls Tryz.prog 18 #[.pointer (some ⟨a.hb,0,none⟩),.int .i64 p,.int .u64 o,.int .i64 i] w fun e w'=>e=.returned (.tuple #[.int .u64 (opGetV c s p o i),.int .i64 (opGet c s p o i).1])∧Scene F W (hpA a c (opGet c s p o i).2::cs) w':=by
 have hS1:=((((((((hS.alloc (.cells #[.pointer (some ⟨a.hb,0,none⟩)] 27)).swap.alloc (.cells #[.int .i64 p] 3)).swap.alloc (.cells #[.int .u64 o] 50)).swap.alloc (.cells #[.int .i64 i] 3)).swap.alloc (.cells #[.int .u64 0] 49)).swap.alloc (.cells #[.int .i64 p,.int .i64 3,.int .u64 o,.int .u64 (u64 i),.int .i64 0] 99)).swap));simp only[size_alloc]at hS1;have hr:=fieldE_range hc hI p o 1 i;have hu:0≤u64 i∧u64 i≤18446744073709551615:=by unfold u64;omega
 have hact:=Lib.hid (act_quiet (r:=fieldE s p o 1 i) (g:=58) hI (by omega) hS1 (by omega) hu Tryz.call58 hr ⟨o0,o1⟩ fun _ w' h'=>get_c hc hI (by omega) o0 o1 h');have hv1:s.st p≠1→opGetV c s p o i=0:=fun h=>by unfold opGetV opGet actQ;rw[if_pos h];simp
 have hv2:s.st p=1→opGetV c s p o i=getW s p o i:=fun h=>by
  unfold opGetV opGet actQ getW;by_cases e:fieldE s p o 1 i=0
  ·simp[h,e]
  ·simp[h,e]
 have hvH:=Lib.hid (And.intro hv1 hv2);have hog:actQ c s p 3 o (u64 i) (fieldE s p o 1 i)=opGet c s p o i:=rfl;rw[hog]at hact;generalize opGet c s p o i=res at*;generalize opGetV c s p o i=V at*;clear hS hS1 hr hv1 hv2 hog;go_enter Tryz.func18,Tryz.ntmps18;go_wp2_with fail;refine hact.out.mono ?_;rintro e w1 ⟨rfl,er2,cs2,hS2,hcs⟩;rcases hcs with⟨hst,rfl⟩|⟨hst,rfl⟩
 ·have e1:=hvH.out.1 hst;subst e1;have hS2:=Lib.hid hS2;have d1:=cells_of (hS2.out.block 2 rfl);clear hact hst;go_wp2_with fail;go_ret2;exact⟨rfl,(((((hS2.out.erase 1).erase 1).erase 1).erase 1).erase 1).erase 1⟩
 ·have e1:=hvH.out.2 hst;subst e1;have hS2:=Lib.hid hS2;have d1:=cells_of (hS2.out.block 2 rfl);clear hact hst;go_wp2_with fail;go_ret2;exact⟨rfl,(((((hS2.out.erase 1).erase 1).erase 1).erase 1).erase 1).erase 1⟩
end Go.Proofs.YteidpgdfocjdbaaGreat
