/- Joined contracts. No conditions. -/
import Derived.Test.YtgfdeiijblakfaaGreatCS
import Derived.Test.YtgfdeiijblakfaaGreatC09
import Derived.Test.YtgfdeiijblakfaaGreatC21
import Derived.Test.YtgfdeiijblakfaaGreatC31
import Derived.Test.YtgfdeiijblakfaaGreatC32
import Derived.Test.YtgfdeiijblakfaaGreatC33
import Derived.Test.YtgfdeiijblakfaaGreatC37
set_option maxHeartbeats 4000000
set_option maxRecDepth 20000
namespace Go.Proofs.YtgfdeiijblakfaaGreat
open Go Go.RowKit Go.Stg
def hcOf (f:Cf):HC:=⟨f.n.toNat,f.first,f.size,⟨f.b,f.o,f.r⟩,f.cap⟩
theorem hcOf_ok {f:Cf} (h:cfOk f) (h1:0≤f.first∧f.first≤4294967295) (h2:f.b≤9223372036854775807∧f.o≤9223372036854775807∧f.r≤9223372036854775807):(hcOf f).Ok:=by
 unfold cfOk at h;refine⟨?_,?_,h1.2,?_,?_,?_,?_,?_⟩<;>unfold hcOf<;>simp only[Qt.Q.pos]<;>omega
theorem newS_live (c:HC):liveE c (newS c)=[]:=by
 unfold liveE;rw[liveL_eq,List.filterMap_eq_nil_iff];intro j _;unfold liveAt newS Tb.start;simp only;rw[if_neg];simp[Tb.slotN,Tb.fresh,List.getD_eq_getElem?_getD,List.getElem?_replicate];split<;>simp
theorem newS_obs (c:HC):obs c (newS c)=[]:=by
 have h1:usedH c (newS c)=[]:=by unfold usedH;rw[newS_live];rfl
 have h2:=obs_used c (newS c);rw[h1]at h2;exact List.map_eq_nil_iff.1 h2
theorem newS_used (c:HC):usedH c (newS c)=[]:=by unfold usedH;rw[newS_live];rfl
theorem newS_has (c:HC) (p:Int):hasH c (newS c) p=Qt.Q.zero:=by
 unfold hasH hasOf;rw[newS_live];rfl
theorem newS_inv {c:HC} (hc:c.Ok):HInv c 0 (newS c):=by
 have hsl:∀j,(Tb.slotN (newS c).T.g.S j).2=false:=fun j=>by
  unfold newS Tb.start;simp[Tb.slotN,Tb.fresh,List.getD_eq_getElem?_getD,List.getElem?_replicate];split<;>simp
 have hmem:∀j,memH (newS c) j=[]:=fun j=>by
  unfold memH newS;simp only[List.getD_eq_getElem?_getD,List.getElem?_replicate];split<;>rfl
 refine⟨Tb.TInv.start c.n c.first,Bw.LInv.nil _,Nat.le_refl _,by simp[newS],by simp[newS],Nat.le_refl _,by simp[newS],Nat.le_refl _,?_,?_,by simp[newS],?_,?_,?_,by simp[newS],?_,fun p=>.inl rfl⟩
 ·rw[newS_used];exact⟨by simp,List.Pairwise.nil⟩
 ·rw[newS_live];simp
 ·intro j _ h;rw[hsl]at h;cases h
 ·intro j b hb;rw[hmem]at hb;cases hb
 ·intro j _;exact hmem j
 ·intro p;rw[newS_has];have:=hc.lim;unfold Qt.Q.pos at this;unfold Qt.Q.zero;simp only;omega
theorem ar_new {size:Int} (h:0≤size):ArIs size [] (List.replicate size.toNat 0):=
 ⟨by simp;omega,fun b hb=>by rw[List.eq_of_mem_replicate hb];omega,by simp,fun x _=>by
  rw[List.getD_eq_getElem?_getD,List.getElem?_replicate];split<;>rfl⟩
theorem st_new {w:World} {b:Nat} (h:w.heap[b]? =some (.map #[] 0)):(stC b (fun _=>0)).on w [b]:=⟨⟨_,_,h,trivial,fun k=>by simp[mget]⟩,rfl⟩
section
variable {F:List Nat} {W w:World} {cs:List Comp} (hS:Scene F W cs w)
include hS
theorem tynew_sc:Calls Tryz.prog 13 #[] w fun e w'=>∃b,e=.returned (.pointer (some ⟨b,0,none⟩))∧Scene F W (Ty.regC 87 b []::cs) w':=
 (Ty.new_ok w).mono fun e w' ⟨he,hw⟩=>⟨_,he,by
  subst hw;exact hS.add (f:=[w.heap.size]++([]++([]++[]))) ((Mod.refl [] w).alloc _) (Ty.reg_fresh 87 (at_alloc w _)) (by simp)⟩
theorem bnew_sc:Calls Tryz.prog 14 #[] w fun e w'=>∃b,e=.returned (.pointer (some ⟨b,0,none⟩))∧Scene F W (Bw.ledC b []::cs) w':=
 (Bw.new_ok w).mono fun e w' ⟨he,hm,hl⟩=>⟨_,he,hS.add hm hl (by simp)⟩
theorem qnew_sc (l:Qt.Q) (hl:l.pos):Calls Tryz.prog 15 #[.agg #[.int .i64 l.b,.int .i64 l.o,.int .i64 l.r]] w fun e w'=>∃b,e=.returned (.pointer (some ⟨b,0,none⟩))∧Scene F W (meterC b l (fun _=>Qt.Q.zero)::cs) w':=
 (Qt.New_any l w (by unfold Qt.Q.pos at hl;unfold Qt.Q.i64;omega)).mono fun e w' ⟨b,he,hm,hb,hM⟩=>⟨_,he,hS.add (f:=[b]) hm ⟨none,hM,rfl⟩ (by simpa using hb)⟩
end
theorem hnew_ok {F:List Nat} {W w:World} {cs:List Comp} (hS:Scene F W cs w) (f:Cf) (hf:cfOk f) (h1:0≤f.first∧f.first≤4294967295) (h2:f.b≤9223372036854775807∧f.o≤9223372036854775807∧f.r≤9223372036854775807):
  Calls Tryz.prog 5 #[.agg (cfA f)] w fun e w'=>∃a:HA,e=.returned (.tuple #[.pointer (some ⟨a.hb,0,none⟩),.int .i64 0])∧Scene F W (hpA a (hcOf f) (newS (hcOf f))::cs) w':=by
 have hc:=hcOf_ok hf h1 h2;have hck:=Lib.hid (check_ok f);rw[cfE_ok hf]at hck;obtain⟨n,size,first,cap,b,o,r,frames,stack⟩:=f;have hfo:=hf;unfold cfOk at hf;simp only at hf h1 h2;obtain⟨n,rfl⟩:=Int.eq_ofNat_of_zero_le hf.1.1;have hlim:(⟨b,o,r⟩:Qt.Q).pos:=hc.lim;unfold cfA at hck⊢;simp only at hck⊢;have hS1:=Lib.hid (hS.alloc (.cells #[.int .i64 n,.int .i64 size,.int .u32 first,.int .i64 cap,.int .i64 b,.int .i64 o,.int .i64 r,.int .i64 frames,.int .i64 stack] 31));have hfH:=Lib.hid hf;have hlimH:=Lib.hid hlim;have hcH:=Lib.hid hc;clear hS hf hlim hc hfo h2;go_enter Tryz.func5,Tryz.ntmps5;go_wp2_with fail;refine(hck.out _).mono ?_;rintro e w1 ⟨rfl,hm⟩;have hS2:=Lib.hid (hS1.out.then hm);have c1:=cells_of (hS2.out.block 0 rfl);clear hm hck hS1;go_wp2_with fail;have k1:=GW.cells (S:=[]) (hS2.out.block 0 rfl) (by simp);apply wp_got5 (fun rt lb mb sm hb w'=>Scene [] w1 [blockC hb (.cells #[.pointer none,.pointer (some ⟨rt,0,none⟩),.pointer none,.pointer (some ⟨lb,0,none⟩),.pointer (some ⟨mb,0,none⟩),.pointer none,.map (some sm)] 63 (0,0)),stC sm (fun _=>0),meterC mb ⟨b,o,r⟩ (fun _=>Qt.Q.zero),Bw.ledC lb [],Ty.regC 87 rt []] w')
 ·refine wp_region_float 5 _ (fun w'=>∃x:GW [] w1,w'=x.1) (fun w'=>Scene [] w1 [] w') (by kernel_rfl) rfl rfl (by kernel_rfl) (by kernel_rfl) (fun _ h=>InGW.of h.mod) (Scene.empty w1).drew ?_;dsimp only[List.getElem_toArray,List.getElem_cons_succ,List.getElem_cons_zero];refine float_eff (by decide) rfl rfl ?A1 rfl (by simp) ?B1
  case A1=>
   refine eff_made (fun b=>[Ty.regC 87 b []]) 13 #[] rfl Tryz.call13 rfl (fun _ _ h=>InGW.of h.mod) (fun w' hw=>tynew_sc hw) (fun rt=> ?_);simp only[Act.put,sA,sB,sC];refine float_eff (by decide) rfl rfl ?A2 rfl (by simp) ?B2
   case A2=>
    refine eff_made (fun b=>[Bw.ledC b [],Ty.regC 87 rt []]) 14 #[] rfl Tryz.call14 rfl (fun _ _ h=>InGW.of h.mod) (fun w' hw=>bnew_sc hw) (fun lb=> ?_);simp only[Act.put,sA,sB,sC];refine float_quiet 2 (by kernel_rfl) (by decide) ?_;simp only[tA,tB,tC,tD,Nat.reduceAdd];(repeat go_big_quiet_step (fail));refine wpQuiet_nil ?_;refine float_eff (by decide) rfl rfl ?A3 rfl (by simp) ?B3
    case A3=>
     refine eff_made (fun mb=>[meterC mb ⟨b,o,r⟩ (fun _=>Qt.Q.zero),Bw.ledC lb [],Ty.regC 87 rt []]) 15 #[.agg #[.int .i64 b,.int .i64 o,.int .i64 r]] rfl Tryz.call15 rfl (fun _ _ h=>InGW.of h.mod) (fun w' hw=>qnew_sc hw ⟨b,o,r⟩ hlimH.out) (fun mb=> ?_);simp only[Act.put,sA,sB,sC];refine float_here ?_;refine stage_lay (fun b=>.map (some b)) (.map #[] 0) (fun b=>stC b (fun _=>0)) (by intro s s' h;simpa using h) rfl rfl (fun _ _ h=>InGW.of h.mod) (fun w' hw=>by kernel_rfl) (fun w' b h=>st_new h) (fun sm=> ?_);simp only[Act.put,sA,sB,sC];refine stage_quiet 1 (by kernel_rfl) ?_;simp only[tA,tB,tC,tD];(repeat go_big_quiet_step (fail));refine wpQuiet_nil ?_;refine stage_lay (fun b=>.pointer (some ⟨b,0,none⟩)) (.cells #[.pointer none,.pointer (some ⟨rt,0,none⟩),.pointer none,.pointer (some ⟨lb,0,none⟩),.pointer (some ⟨mb,0,none⟩),.pointer none,.map (some sm)] 63 (0,0)) (fun b=>blockC b (.cells #[.pointer none,.pointer (some ⟨rt,0,none⟩),.pointer none,.pointer (some ⟨lb,0,none⟩),.pointer (some ⟨mb,0,none⟩),.pointer none,.map (some sm)] 63 (0,0))) (by intro s s' h;simpa using h) rfl rfl (fun _ _ h=>InGW.of h.mod) (fun w' hw=>by kernel_rfl) (fun w' b h=>⟨h,rfl⟩) (fun hb=> ?_);simp only[Act.put,sA,sB,sC];refine stage_quiet 1 (by kernel_rfl) ?_;simp only[tA,tB,tC,tD];(repeat go_big_quiet_step (fail));refine wpQuiet_nil ?_;refine stage_nil fun w' hw'=> ?_
     exact⟨trivial,rt,lb,mb,sm,hb,rfl,hw'⟩
    case B3=>
     simp only[Nat.reduceSub,List.eraseIdx_cons_succ,List.eraseIdx_cons_zero];refine stage_lay (fun b=>.map (some b)) (.map #[] 0) (fun b=>stC b (fun _=>0)) (by intro s s' h;simpa using h) rfl rfl (fun _ _ h=>InGW.of h.mod) (fun w' hw=>by kernel_rfl) (fun w' b h=>st_new h) (fun sm=> ?_);simp only[Act.put,sA,sB,sC];refine stage_made (fun mb=>[meterC mb ⟨b,o,r⟩ (fun _=>Qt.Q.zero),stC sm (fun _=>0),Bw.ledC lb [],Ty.regC 87 rt []]) 15 #[.agg #[.int .i64 b,.int .i64 o,.int .i64 r]] rfl Tryz.call15 rfl rfl (fun _ _ h=>InGW.of h.mod) (fun w' hw=>qnew_sc hw ⟨b,o,r⟩ hlimH.out) (fun mb=> ?_);simp only[Act.put,sA,sB,sC];refine stage_quiet 1 (by kernel_rfl) ?_;simp only[tA,tB,tC,tD];(repeat go_big_quiet_step (fail));refine wpQuiet_nil ?_;refine stage_lay (fun b=>.pointer (some ⟨b,0,none⟩)) (.cells #[.pointer none,.pointer (some ⟨rt,0,none⟩),.pointer none,.pointer (some ⟨lb,0,none⟩),.pointer (some ⟨mb,0,none⟩),.pointer none,.map (some sm)] 63 (0,0)) (fun b=>blockC b (.cells #[.pointer none,.pointer (some ⟨rt,0,none⟩),.pointer none,.pointer (some ⟨lb,0,none⟩),.pointer (some ⟨mb,0,none⟩),.pointer none,.map (some sm)] 63 (0,0))) (by intro s s' h;simpa using h) rfl rfl (fun _ _ h=>InGW.of h.mod) (fun w' hw=>by kernel_rfl) (fun w' b h=>⟨h,rfl⟩) (fun hb=> ?_);simp only[Act.put,sA,sB,sC];refine stage_quiet 1 (by kernel_rfl) ?_;simp only[tA,tB,tC,tD];(repeat go_big_quiet_step (fail));refine wpQuiet_nil ?_;refine stage_nil fun w' hw'=> ?_
     exact⟨trivial,rt,lb,mb,sm,hb,rfl,(hw'.out 2 rfl).swap⟩
   case B2=>
    simp only[List.eraseIdx_cons_succ,List.eraseIdx_cons_zero];refine stage_lay (fun b=>.map (some b)) (.map #[] 0) (fun b=>stC b (fun _=>0)) (by intro s s' h;simpa using h) rfl rfl (fun _ _ h=>InGW.of h.mod) (fun w' hw=>by kernel_rfl) (fun w' b h=>st_new h) (fun sm=> ?_);simp only[Act.put,sA,sB,sC];refine stage_made (fun lb=>[Bw.ledC lb [],stC sm (fun _=>0),Ty.regC 87 rt []]) 14 #[] rfl Tryz.call14 rfl rfl (fun _ _ h=>InGW.of h.mod) (fun w' hw=>bnew_sc hw) (fun lb=> ?_);simp only[Act.put,sA,sB,sC];refine stage_quiet 2 (by kernel_rfl) ?_;simp only[tA,tB,tC,tD];(repeat go_big_quiet_step (fail));refine wpQuiet_nil ?_;refine stage_made (fun mb=>[meterC mb ⟨b,o,r⟩ (fun _=>Qt.Q.zero),Bw.ledC lb [],stC sm (fun _=>0),Ty.regC 87 rt []]) 15 #[.agg #[.int .i64 b,.int .i64 o,.int .i64 r]] rfl Tryz.call15 rfl rfl (fun _ _ h=>InGW.of h.mod) (fun w' hw=>qnew_sc hw ⟨b,o,r⟩ hlimH.out) (fun mb=> ?_);simp only[Act.put,sA,sB,sC];refine stage_quiet 1 (by kernel_rfl) ?_;simp only[tA,tB,tC,tD];(repeat go_big_quiet_step (fail));refine wpQuiet_nil ?_;refine stage_lay (fun b=>.pointer (some ⟨b,0,none⟩)) (.cells #[.pointer none,.pointer (some ⟨rt,0,none⟩),.pointer none,.pointer (some ⟨lb,0,none⟩),.pointer (some ⟨mb,0,none⟩),.pointer none,.map (some sm)] 63 (0,0)) (fun b=>blockC b (.cells #[.pointer none,.pointer (some ⟨rt,0,none⟩),.pointer none,.pointer (some ⟨lb,0,none⟩),.pointer (some ⟨mb,0,none⟩),.pointer none,.map (some sm)] 63 (0,0))) (by intro s s' h;simpa using h) rfl rfl (fun _ _ h=>InGW.of h.mod) (fun w' hw=>by kernel_rfl) (fun w' b h=>⟨h,rfl⟩) (fun hb=> ?_);simp only[Act.put,sA,sB,sC];refine stage_quiet 1 (by kernel_rfl) ?_;simp only[tA,tB,tC,tD];(repeat go_big_quiet_step (fail));refine wpQuiet_nil ?_;refine stage_nil fun w' hw'=> ?_
    exact⟨trivial,rt,lb,mb,sm,hb,rfl,(hw'.out 3 rfl).swap⟩
  case B1=>
   simp only[Nat.reduceSub,List.eraseIdx_cons_succ,List.eraseIdx_cons_zero];refine stage_lay (fun b=>.map (some b)) (.map #[] 0) (fun b=>stC b (fun _=>0)) (by intro s s' h;simpa using h) rfl rfl (fun _ _ h=>InGW.of h.mod) (fun w' hw=>by kernel_rfl) (fun w' b h=>st_new h) (fun sm=> ?_);simp only[Act.put,sA,sB,sC];refine stage_made (fun rt=>[Ty.regC 87 rt [],stC sm (fun _=>0)]) 13 #[] rfl Tryz.call13 rfl rfl (fun _ _ h=>InGW.of h.mod) (fun w' hw=>tynew_sc hw) (fun rt=> ?_);simp only[Act.put,sA,sB,sC];refine stage_made (fun lb=>[Bw.ledC lb [],Ty.regC 87 rt [],stC sm (fun _=>0)]) 14 #[] rfl Tryz.call14 rfl rfl (fun _ _ h=>InGW.of h.mod) (fun w' hw=>bnew_sc hw) (fun lb=> ?_);simp only[Act.put,sA,sB,sC];refine stage_quiet 2 (by kernel_rfl) ?_;simp only[tA,tB,tC,tD];(repeat go_big_quiet_step (fail));refine wpQuiet_nil ?_;refine stage_made (fun mb=>[meterC mb ⟨b,o,r⟩ (fun _=>Qt.Q.zero),Bw.ledC lb [],Ty.regC 87 rt [],stC sm (fun _=>0)]) 15 #[.agg #[.int .i64 b,.int .i64 o,.int .i64 r]] rfl Tryz.call15 rfl rfl (fun _ _ h=>InGW.of h.mod) (fun w' hw=>qnew_sc hw ⟨b,o,r⟩ hlimH.out) (fun mb=> ?_);simp only[Act.put,sA,sB,sC];refine stage_quiet 1 (by kernel_rfl) ?_;simp only[tA,tB,tC,tD];(repeat go_big_quiet_step (fail));refine wpQuiet_nil ?_;refine stage_lay (fun b=>.pointer (some ⟨b,0,none⟩)) (.cells #[.pointer none,.pointer (some ⟨rt,0,none⟩),.pointer none,.pointer (some ⟨lb,0,none⟩),.pointer (some ⟨mb,0,none⟩),.pointer none,.map (some sm)] 63 (0,0)) (fun b=>blockC b (.cells #[.pointer none,.pointer (some ⟨rt,0,none⟩),.pointer none,.pointer (some ⟨lb,0,none⟩),.pointer (some ⟨mb,0,none⟩),.pointer none,.map (some sm)] 63 (0,0))) (by intro s s' h;simpa using h) rfl rfl (fun _ _ h=>InGW.of h.mod) (fun w' hw=>by kernel_rfl) (fun w' b h=>⟨h,rfl⟩) (fun hb=> ?_);simp only[Act.put,sA,sB,sC];refine stage_quiet 1 (by kernel_rfl) ?_;simp only[tA,tB,tC,tD];(repeat go_big_quiet_step (fail));refine wpQuiet_nil ?_;refine stage_nil fun w' hw'=> ?_
   exact⟨trivial,rt,lb,mb,sm,hb,rfl,(hw'.out 4 rfl).swap⟩
 intro rt lb mb sm hb w2 hw2;have hS3:=Lib.hid (scene_joinNew hS2.out hw2);simp only[List.cons_append,List.nil_append]at hS3;have c1:=cells_of (hS3.out.block 5 rfl);have c2:=cells_of (hS3.out.block 0 rfl);clear k1 hS2 hw2;go_wp2_with fail;refine(arnew_ok hS3.out size (by have:=hfH.out;omega) (by have:=hfH.out;omega)).mono ?_;rintro e w3 ⟨ar,rfl,hS4⟩;have hS4:=Lib.hid hS4;have c2:=cells_of (hS4.out.block 1 rfl);have f2:=frozen_of (hS4.out.block 1 rfl);have hS5:=Lib.hid (hS4.out.blockSet 1 rfl 0 (.pointer (some ⟨ar,0,none⟩)));have c3:=cells_of (hS5.out.block 6 rfl);clear hS3 c1;go_wp2_with fail;refine(Tb.tnew_ok n first (by have:=hfH.out;omega) (by have:=hfH.out;omega) h1.2 hS5.out).mono ?_;rintro e w4 ⟨tb,ev,bt,pb,sl,rfl,hS6⟩;have hS6:=Lib.hid hS6;have c2:=cells_of (hS6.out.block 2 rfl);have f2:=frozen_of (hS6.out.block 2 rfl);have hS7:=Lib.hid (hS6.out.blockSet 2 rfl 2 (.pointer (some ⟨tb,0,none⟩)));have c3:=cells_of (hS7.out.block 7 rfl);clear hS4 hS5;go_wp2_with fail;refine(lognew_ok cap (by have:=hfH.out;omega) (by have:=hfH.out;omega) _).mono ?_;rintro e w5 ⟨rfl,rfl⟩;have hS8:=Lib.hid (hS7.out.add (c:=logC (w4.setCell ⟨hb,2,none⟩ (.pointer (some ⟨tb,0,none⟩))).heap.size cap [] []) (f:=_) ((Mod.refl [] _).alloc _) (log_fresh cap (at_alloc _ _)) (by simp));have c2:=cells_of (hS8.out.block 3 rfl);have f2:=frozen_of (hS8.out.block 3 rfl);generalize(w4.setCell ⟨hb,2,none⟩ (.pointer (some ⟨tb,0,none⟩))).alloc (.cells #[.int .i64 cap,.slice none 0 0,.slice none 0 0,.int .u64 0,.map none,.map none] 108)=w6 at*;generalize(w4.setCell ⟨hb,2,none⟩ (.pointer (some ⟨tb,0,none⟩))).heap.size=gb at*;have hS9:=Lib.hid (hS8.out.blockSet 3 rfl 5 (.pointer (some ⟨gb,0,none⟩)));clear hS6 hS7 hS8 c3;go_wp2_with fail;go_ret2;refine⟨⟨hb,ar,rt,tb,lb,mb,gb,sm,ev,bt,pb,sl⟩,rfl,?_⟩;have h9:=(((((((((hS9.out.out 4 rfl).out 1 rfl).out 5 rfl).out 6 rfl).out 4 rfl).out 7 rfl).out 6 rfl).out 7 rfl).erase 8);exact hp_close (a:=⟨hb,ar,rt,tb,lb,mb,gb,sm,ev,bt,pb,sl⟩) (c:=hcOf ⟨n,size,first,cap,b,o,r,frames,stack⟩) (s':=newS (hcOf ⟨n,size,first,cap,b,o,r,frames,stack⟩)) (newS_used _).symm (fun p=>(newS_has _ p).symm) (by rw[newS_obs];exact ar_new (by have:=hfH.out;simp only[hcOf];omega)) h9
theorem hnew_bad (f:Cf) (hf:¬cfOk f) (w:World):Calls Tryz.prog 5 #[.agg (cfA f)] w fun e w'=>e=.returned (.tuple #[.pointer none,.int .i64 1])∧Mod [] w w':=by
 have hck:=Lib.hid (check_ok f);rw[cfE_bad hf]at hck;obtain⟨n,size,first,cap,b,o,r,frames,stack⟩:=f;unfold cfA at hck⊢;simp only at hck⊢;have hS1:=Lib.hid ((Scene.empty w).alloc (.cells #[.int .i64 n,.int .i64 size,.int .u32 first,.int .i64 cap,.int .i64 b,.int .i64 o,.int .i64 r,.int .i64 frames,.int .i64 stack] 31));clear hf;go_enter Tryz.func5,Tryz.ntmps5;go_wp2_with fail;refine(hck.out _).mono ?_;rintro e w1 ⟨rfl,hm⟩;have hS2:=Lib.hid (hS1.out.then hm);clear hm hck hS1;go_wp2_with fail;go_ret2;exact⟨rfl,hS2.out.mod⟩
end Go.Proofs.YtgfdeiijblakfaaGreat
namespace Go.Proofs.YtgfdeiijblakfaaGreat
open Go Go.RowKit Go.Stg
def hwF (b:Bool):Cf:=if b then⟨1,64,1,20,64,2,0,1,0⟩else⟨1,64,1,99,64,1,0,1,0⟩
def hwN (b:Bool):Nat:=if b then 4 else 20
def hwT (b:Bool):Ty.Ty:=(0,[(6,if b then 4 else 20)])
def hwC (b:Bool):HC:=hcOf (hwF b)
def hw1 (b:Bool):HS:=defS (newS (hwC b)) (hwT b)
def hw2 (b:Bool):HS:=(startD (hw1 b) 1).2
def hwH:Int:=72057594054705152
def hw3a (b:Bool):HS:={hw2 b with T:=Tb.issT 1 (hw2 b).T 1 1 0 (if b then 16 else 32) 0,mem:=(hw2 b).mem.set (Tb.pickS (hw2 b).T.g.F 0) (List.replicate (hwN b) 0)}
def hw3 (b:Bool):HS:=logA (hwC b) (hw3a b) ⟨1,1,hwH,1,0⟩
theorem hwF_ok (b:Bool):cfOk (hwF b):=by cases b<;>(unfold cfOk hwF;simp)
theorem hwF_r (b:Bool):(0≤(hwF b).first∧(hwF b).first≤4294967295)∧((hwF b).b≤9223372036854775807∧(hwF b).o≤9223372036854775807∧(hwF b).r≤9223372036854775807):=by cases b<;>(unfold hwF;simp)
theorem hwC_ok (b:Bool):(hwC b).Ok:=hcOf_ok (hwF_ok b) (hwF_r b).1 (hwF_r b).2
theorem hw_reg (b:Bool):Ty.regTag (newS (hwC b)).R (hwT b)=1∧Ty.regErr (newS (hwC b)).R (hwT b)=0:=by cases b<;>exact⟨by kernel_rfl,by kernel_rfl⟩
theorem hw_start (b:Bool):(startD (hw1 b) 1).1=0:=by cases b<;>kernel_rfl
theorem hw_none {c:HC} (hc:c.Ok) {s:HS} (h:liveE c s=[]):freeH c s=gap 0 c.size:=by
 unfold freeH usedH;rw[h];exact frOf_nil hc.s1
theorem hw_free (b:Bool):freeH (hwC b) (hw2 b)=[(0,64)]:=by
 rw[hw_none (hwC_ok b) (by show liveE (hwC b) (newS (hwC b))=[];exact newS_live (hwC b))];cases b<;>kernel_rfl
theorem hw_allocE (b:Bool):allocE (hwC b) (hw2 b) 1 1=0:=by
 unfold allocE;rw[hw_free];cases b<;>kernel_rfl
theorem hw_allocX (b:Bool):allocX (hwC b) (hw2 b) 1=(0,if b then 16 else 32):=by
 unfold allocX;rw[hw_free];cases b<;>kernel_rfl
theorem hw_allocH (b:Bool):allocH (hwC b) (hw2 b) 1 1 0=hwH:=by
 unfold allocH;rw[if_pos (hw_allocE b)];cases b<;>kernel_rfl
theorem hw_alloc (b:Bool):opAlloc (hwC b) (hw2 b) 1 1 0=(0,hw3 b):=by
 have h1:allocS (hwC b) (hw2 b) 1 1 0=hw3a b:=by
  unfold allocS;rw[if_pos (hw_allocE b),hw_allocX];cases b<;>kernel_rfl
 have h2:act (hwC b) (hw2 b) 1 1 hwH (u64 1) (0,hw3a b)=(0,hw3 b):=by cases b<;>kernel_rfl
 unfold opAlloc;rw[hw_allocH,hw_allocE,h1];exact h2
theorem hw_allocHo (b:Bool):opAllocH (hwC b) (hw2 b) 1 1 0=hwH:=by
 unfold opAllocH;rw[hw_alloc,if_pos rfl,hw_allocH]
theorem hwH_range:0≤hwH∧hwH≤18446744073709551615:=by unfold hwH;omega
theorem hw_inv1 (b:Bool):HInv (hwC b) 0 (hw1 b):=inv_def (newS_inv (hwC_ok b)) (hwT b)
theorem hw_inv2 (b:Bool):HInv (hwC b) 1 (hw2 b):=inv_start (hw_inv1 b) 1
theorem hw_inv3 (b:Bool):HInv (hwC b) 3 (hw3 b):=by
 have:=inv_opAlloc (hwC_ok b) (hw_inv2 b) 1 1 0;rw[hw_alloc]at this;exact this
structure Hw (b:Bool) (s:HS):Prop where
 R:s.R=(hw3 b).R
 T:s.T=(hw3 b).T
 L:s.L=(hw3 b).L
 st:s.st=(hw3 b).st
theorem hw_st (b:Bool):(hw3 b).st 1=1:=by cases b<;>kernel_rfl
theorem hw_room (b:Bool):room (hwC b) (hw3 b) 1=true:=by cases b<;>kernel_rfl
theorem hw_acc (b:Bool):accD (hw3 b) 1 hwH 1=0∧accD (hw3 b) 1 hwH 2=0:=by cases b<;>exact⟨by kernel_rfl,by kernel_rfl⟩
theorem hw_size (b:Bool):sizeH (hw3 b) hwH=hwN b:=by cases b<;>kernel_rfl
theorem hw_bytes (b:Bool):bytesH (hw3 b) hwH=List.replicate (hwN b) 0:=by cases b<;>kernel_rfl
theorem hw_mlen (b:Bool):(hw3 b).mem.length=1:=by cases b<;>kernel_rfl
theorem Hw.refl (b:Bool):Hw b (hw3 b):=⟨rfl,rfl,rfl,rfl⟩
theorem Hw.logA {b:Bool} {s:HS} (h:Hw b s) (c:HC) (e:Ev):Hw b (logA c s e):=by
 unfold Go.Proofs.YtgfdeiijblakfaaGreat.logA;split<;>exact⟨h.R,h.T,h.L,h.st⟩
theorem Hw.acc {b:Bool} {s:HS} (h:Hw b s):accD s 1 hwH 1=0∧accD s 1 hwH 2=0:=by
 have e:∀a,accD s 1 hwH a=accD (hw3 b) 1 hwH a:=fun a=>by unfold accD entH;rw[h.T,h.L]
 rw[e,e];exact hw_acc b
theorem Hw.size {b:Bool} {s:HS} (h:Hw b s):sizeH s hwH=hwN b:=by
 rw[←hw_size b];unfold sizeH sizeTag tyTag entH;rw[h.T,h.R]
theorem logA_mem (c:HC) (s:HS) (e:Ev):(logA c s e).mem=s.mem:=by
 unfold logA;split<;>rfl
theorem hw_store (b:Bool) (off:Int) (bs:List Int):
  (opStore (hwC b) (hw3 b) 1 hwH off bs).1=(if withinN off bs.length (hwN b)=false then 7 else 0)∧Hw b (opStore (hwC b) (hw3 b) 1 hwH off bs).2∧
  bytesH (opStore (hwC b) (hw3 b) 1 hwH off bs).2 hwH=if withinN off bs.length (hwN b)=false then List.replicate (hwN b) 0 else overlay (List.replicate (hwN b) 0) off.toNat bs:=by
 unfold opStore act;rw[if_neg (by simp[hw_st]),if_neg (by simp[hw_room])];unfold storeD;rw[if_neg (by simp[(hw_acc b).2]),hw_size];split
 ·refine⟨rfl,(Hw.refl b).logA _ _,?_⟩;unfold bytesH memH;rw[logA_mem];exact hw_bytes b
 ·refine⟨rfl,Hw.logA (s:=putD (hw3 b) hwH off bs) ⟨rfl,rfl,rfl,rfl⟩ _ _,?_⟩;unfold bytesH memH;rw[logA_mem];unfold putD;simp only;rw[List.getD_eq_getElem?_getD,List.getElem?_set_self (by rw[hw_mlen];decide)];simp only[Option.getD_some];rw[hw_bytes]
theorem Hw.load {b:Bool} {s:HS} (h:Hw b s) (off n:Int):
  (opLoad (hwC b) s 1 hwH off n).1=(if n<0 then 1 else if withinN off n (hwN b)=false then 7 else 0)∧Hw b (opLoad (hwC b) s 1 hwH off n).2∧bytesH (opLoad (hwC b) s 1 hwH off n).2 hwH=bytesH s hwH:=by
 have hst:s.st 1=1:=by rw[h.st];exact hw_st b
 have hE:loadE s 1 hwH off n=if n<0 then 1 else if withinN off n (hwN b)=false then 7 else 0:=by
  unfold loadE;rw[if_neg (by simp[h.acc.1]),h.size]
 unfold opLoad actQ;rw[if_neg (by simp[hst]),hE];generalize(if n<0 then(1:Int)else if withinN off n (hwN b)=false then 7 else 0)=e;split
 ·rename_i h0;exact⟨h0.symm,h,rfl⟩
 ·refine⟨rfl,h.logA _ _,?_⟩;unfold bytesH memH;rw[logA_mem]
theorem leB_drop (v:Int):∀(k n:Nat),k≤n→(leB v n).drop k=leB (v/256^k) (n-k)
 |0,n,_=>by simp
 |k+1,0,h=>by omega
 |k+1,n+1,h=>by
  rw[leB,List.drop_succ_cons,leB_drop (v/256) k n (by omega),Int.ediv_ediv_of_nonneg (by omega), ←Int.pow_succ',Nat.add_sub_add_right]
theorem cut_overlay {l b:List Int} {off k:Nat} (h:off+b.length≤l.length) (hk:k≤b.length):((overlay l off b).drop (off+k)).take (b.length-k)=b.drop k:=by
 have h1:(l.take off).length=off:=by rw[List.length_take];omega
 unfold overlay;rw[List.append_assoc,List.drop_append,List.drop_of_length_le (by rw[h1];omega),List.nil_append,h1,Nat.add_sub_cancel_left,List.drop_append_of_le_length hk,List.take_append_of_le_length (by simp),List.take_of_length_le (by simp)]
end Go.Proofs.YtgfdeiijblakfaaGreat
