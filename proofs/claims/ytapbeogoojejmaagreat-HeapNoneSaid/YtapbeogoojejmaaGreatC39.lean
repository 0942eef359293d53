/- Joined contracts. No conditions. -/
import Derived.Test.YtapbeogoojejmaaGreatCS
import Derived.Test.YtapbeogoojejmaaGreatC08
import Derived.Test.YtapbeogoojejmaaGreatC21
import Derived.Test.YtapbeogoojejmaaGreatC28
import Derived.Test.YtapbeogoojejmaaGreatC29
import Derived.Test.YtapbeogoojejmaaGreatC31
import Derived.Test.YtapbeogoojejmaaGreatC34
import Derived.Test.YtapbeogoojejmaaGreatC38
set_option maxHeartbeats 8000000
set_option maxRecDepth 20000
namespace Go.Proofs.YtapbeogoojejmaaGreat
open Go Go.RowKit Go.Stg
def hcOf (f:Cf):HC:=⟨f.n.toNat,f.first,f.size,⟨f.b,f.o,f.r⟩,f.cap⟩
theorem hcOf_ok {f:Cf} (h:cfOk f) (h1:0≤f.first∧f.first≤4294967295) (h2:f.b≤9223372036854775807∧f.o≤9223372036854775807∧f.r≤9223372036854775807):(hcOf f).Ok:=by
 unfold cfOk at h;refine⟨?_,?_,h1.2,?_,?_,?_,?_,?_⟩<;>unfold hcOf<;>simp only[Qt.Q.pos]<;>omega
theorem newS_live (c:HC):liveE c (newS c)=[]:=by
 unfold liveE;rw[liveL_eq,List.filterMap_eq_nil_iff];intro j _;unfold liveAt newS Tb.start;simp only;rw[if_neg];simp[Tb.slotN,Tb.fresh,List.getD_eq_getElem?_getD,List.getElem?_replicate];split<;>simp
theorem newS_obs (c:HC):obs c (newS c)=[]:=by
 have h1:usedH c (newS c)=[]:=by unfold usedH;rw[newS_live];rfl
 have h2:=obs_used c (newS c);rw[h1]at h2;exact List.map_eq_nil_iff.1 h2
theorem newS_used (c:HC):usedH c (newS c)=[]:=by unfold usedH;rw[newS_live];rfl
theorem newS_has (c:HC) (p:Int):hasH c (newS c) p=Qt.Q.zero:=by
 unfold hasH hasOf;rw[newS_live];rfl
theorem newS_inv {c:HC} (hc:c.Ok):HInv c 0 (newS c):=by
 have hsl:∀j,(Tb.slotN (newS c).T.g.S j).2=false:=fun j=>by
  unfold newS Tb.start;simp[Tb.slotN,Tb.fresh,List.getD_eq_getElem?_getD,List.getElem?_replicate];split<;>simp
 have hmem:∀j,memH (newS c) j=[]:=fun j=>by
  unfold memH newS;simp only[List.getD_eq_getElem?_getD,List.getElem?_replicate];split<;>rfl
 refine⟨Tb.TInv.start c.n c.first,Bw.LInv.nil _,Nat.le_refl _,by simp[newS],by simp[newS],Nat.le_refl _,by simp[newS],Nat.le_refl _,?_,?_,by simp[newS],?_,?_,?_,by simp[newS],?_,fun p=>.inl rfl⟩
 ·rw[newS_used];exact⟨by simp,List.Pairwise.nil⟩
 ·rw[newS_live];simp
 ·intro j _ h;rw[hsl]at h;cases h
 ·intro j b hb;rw[hmem]at hb;cases hb
 ·intro j _;exact hmem j
 ·intro p;rw[newS_has];have:=hc.lim;unfold Qt.Q.pos at this;unfold Qt.Q.zero;simp only;omega
theorem ar_new {size:Int} (h:0≤size):ArIs size [] (List.replicate size.toNat 0):=
 ⟨by simp;omega,fun b hb=>by rw[List.eq_of_mem_replicate hb];omega,by simp,fun x _=>by
  rw[List.getD_eq_getElem?_getD,List.getElem?_replicate];split<;>rfl⟩
theorem st_new {w:World} {b:Nat} (h:w.heap[b]? =some (.map #[] 0)):(stC b (fun _=>0)).on w [b]:=⟨⟨_,_,h,trivial,fun k=>by simp[mget]⟩,rfl⟩
section
variable {F:List Nat} {W w:World} {cs:List Comp} (hS:Scene F W cs w)
include hS
theorem tynew_sc:Calls Tryz.prog 94 #[] w fun e w'=>∃b,e=.returned (.pointer (some ⟨b,0,none⟩))∧Scene F W (Ty.regC 170 b []::cs) w':=
 (Ty.new_ok w).mono fun e w' ⟨he,hw⟩=>⟨_,he,by
  subst hw;exact hS.add (f:=[w.heap.size]++([]++([]++[]))) ((Mod.refl [] w).alloc _) (Ty.reg_fresh 170 (at_alloc w _)) (by simp)⟩
theorem bnew_sc:Calls Tryz.prog 95 #[] w fun e w'=>∃b,e=.returned (.pointer (some ⟨b,0,none⟩))∧Scene F W (Bw.ledC b []::cs) w':=
 (Bw.new_ok w).mono fun e w' ⟨he,hm,hl⟩=>⟨_,he,hS.add hm hl (by simp)⟩
theorem qnew_sc (l:Qt.Q) (hl:l.pos):Calls Tryz.prog 96 #[.agg #[.int .i64 l.b,.int .i64 l.o,.int .i64 l.r]] w fun e w'=>∃b,e=.returned (.pointer (some ⟨b,0,none⟩))∧Scene F W (meterC b l (fun _=>Qt.Q.zero)::cs) w':=
 (Qt.New_any l w (by unfold Qt.Q.pos at hl;unfold Qt.Q.i64;omega)).mono fun e w' ⟨b,he,hm,hb,hM⟩=>⟨_,he,hS.add (f:=[b]) hm ⟨none,hM,rfl⟩ (by simpa using hb)⟩
end
theorem hnew_ok {F:List Nat} {W w:World} {cs:List Comp} (hS:Scene F W cs w) (f:Cf) (hf:cfOk f) (h1:0≤f.first∧f.first≤4294967295) (h2:f.b≤9223372036854775807∧f.o≤9223372036854775807∧f.r≤9223372036854775807):
  Calls Tryz.prog 33 #[.agg (cfA f)] w fun e w'=>∃a:HA,e=.returned (.tuple #[.pointer (some ⟨a.hb,0,none⟩),.int .i64 0])∧Scene F W (hpA a (hcOf f) (newS (hcOf f))::cs) w':=by
 have hc:=hcOf_ok hf h1 h2;have hck:=Lib.hid (check_ok f);rw[cfE_ok hf]at hck;obtain⟨n,size,first,cap,b,o,r,frames,stack⟩:=f;have hfo:=hf;unfold cfOk at hf;simp only at hf h1 h2;obtain⟨n,rfl⟩:=Int.eq_ofNat_of_zero_le hf.1.1;have hlim:(⟨b,o,r⟩:Qt.Q).pos:=hc.lim;unfold cfA at hck⊢;simp only at hck⊢;have hS1:=Lib.hid (hS.alloc (.cells #[.int .i64 n,.int .i64 size,.int .u32 first,.int .i64 cap,.int .i64 b,.int .i64 o,.int .i64 r,.int .i64 frames,.int .i64 stack] 81));have hfH:=Lib.hid hf;have hlimH:=Lib.hid hlim;have hcH:=Lib.hid hc;clear hS hf hlim hc hfo h2;go_enter Tryz.func33,Tryz.ntmps33;go_wp2_with fail;refine(hck.out _).mono ?_;rintro e w1 ⟨rfl,hm⟩;have hS2:=Lib.hid (hS1.out.then hm);have c1:=cells_of (hS2.out.block 0 rfl);clear hm hck hS1;go_wp2_with fail;have k1:=GW.cells (S:=[]) (hS2.out.block 0 rfl) (by simp);apply wp_got5 (fun rt lb mb sm hb w'=>Scene [] w1 [blockC hb (.cells #[.pointer none,.pointer (some ⟨rt,0,none⟩),.pointer none,.pointer (some ⟨lb,0,none⟩),.pointer (some ⟨mb,0,none⟩),.pointer none,.map (some sm)] 40 (0,0)),stC sm (fun _=>0),meterC mb ⟨b,o,r⟩ (fun _=>Qt.Q.zero),Bw.ledC lb [],Ty.regC 170 rt []] w')
 ·refine wp_region_float 5 _ (fun w'=>∃x:GW [] w1,w'=x.1) (fun w'=>Scene [] w1 [] w') (by kernel_rfl) rfl rfl (by kernel_rfl) (by kernel_rfl) (fun _ h=>InGW.of h.mod) (Scene.empty w1).drew ?_;dsimp only[List.getElem_toArray,List.getElem_cons_succ,List.getElem_cons_zero];refine float_eff (by decide) rfl rfl ?A1 rfl (by simp) ?B1
  case A1=>
   refine eff_made (fun b=>[Ty.regC 170 b []]) 94 #[] rfl Tryz.call94 rfl (fun _ _ h=>InGW.of h.mod) (fun w' hw=>tynew_sc hw) (fun rt=> ?_);simp only[Act.put,sA,sB,sC];refine float_eff (by decide) rfl rfl ?A2 rfl (by simp) ?B2
   case A2=>
    refine eff_made (fun b=>[Bw.ledC b [],Ty.regC 170 rt []]) 95 #[] rfl Tryz.call95 rfl (fun _ _ h=>InGW.of h.mod) (fun w' hw=>bnew_sc hw) (fun lb=> ?_);simp only[Act.put,sA,sB,sC];refine float_quiet 2 (by kernel_rfl) (by decide) ?_;simp only[tA,tB,tC,tD,Nat.reduceAdd];(repeat go_big_quiet_step (fail));refine wpQuiet_nil ?_;refine float_eff (by decide) rfl rfl ?A3 rfl (by simp) ?B3
    case A3=>
     refine eff_made (fun mb=>[meterC mb ⟨b,o,r⟩ (fun _=>Qt.Q.zero),Bw.ledC lb [],Ty.regC 170 rt []]) 96 #[.agg #[.int .i64 b,.int .i64 o,.int .i64 r]] rfl Tryz.call96 rfl (fun _ _ h=>InGW.of h.mod) (fun w' hw=>qnew_sc hw ⟨b,o,r⟩ hlimH.out) (fun mb=> ?_);simp only[Act.put,sA,sB,sC];refine float_here ?_;refine stage_lay (fun b=>.map (some b)) (.map #[] 0) (fun b=>stC b (fun _=>0)) (by intro s s' h;simpa using h) rfl rfl (fun _ _ h=>InGW.of h.mod) (fun w' hw=>by kernel_rfl) (fun w' b h=>st_new h) (fun sm=> ?_);simp only[Act.put,sA,sB,sC];refine stage_quiet 1 (by kernel_rfl) ?_;simp only[tA,tB,tC,tD];(repeat go_big_quiet_step (fail));refine wpQuiet_nil ?_;refine stage_lay (fun b=>.pointer (some ⟨b,0,none⟩)) (.cells #[.pointer none,.pointer (some ⟨rt,0,none⟩),.pointer none,.pointer (some ⟨lb,0,none⟩),.pointer (some ⟨mb,0,none⟩),.pointer none,.map (some sm)] 40 (0,0)) (fun b=>blockC b (.cells #[.pointer none,.pointer (some ⟨rt,0,none⟩),.pointer none,.pointer (some ⟨lb,0,none⟩),.pointer (some ⟨mb,0,none⟩),.pointer none,.map (some sm)] 40 (0,0))) (by intro s s' h;simpa using h) rfl rfl (fun _ _ h=>InGW.of h.mod) (fun w' hw=>by kernel_rfl) (fun w' b h=>⟨h,rfl⟩) (fun hb=> ?_);simp only[Act.put,sA,sB,sC];refine stage_quiet 1 (by kernel_rfl) ?_;simp only[tA,tB,tC,tD];(repeat go_big_quiet_step (fail));refine wpQuiet_nil ?_;refine stage_nil fun w' hw'=> ?_
     exact⟨trivial,rt,lb,mb,sm,hb,rfl,hw'⟩
    case B3=>
     simp only[Nat.reduceSub,List.eraseIdx_cons_succ,List.eraseIdx_cons_zero];refine stage_lay (fun b=>.map (some b)) (.map #[] 0) (fun b=>stC b (fun _=>0)) (by intro s s' h;simpa using h) rfl rfl (fun _ _ h=>InGW.of h.mod) (fun w' hw=>by kernel_rfl) (fun w' b h=>st_new h) (fun sm=> ?_);simp only[Act.put,sA,sB,sC];refine stage_made (fun mb=>[meterC mb ⟨b,o,r⟩ (fun _=>Qt.Q.zero),stC sm (fun _=>0),Bw.ledC lb [],Ty.regC 170 rt []]) 96 #[.agg #[.int .i64 b,.int .i64 o,.int .i64 r]] rfl Tryz.call96 rfl rfl (fun _ _ h=>InGW.of h.mod) (fun w' hw=>qnew_sc hw ⟨b,o,r⟩ hlimH.out) (fun mb=> ?_);simp only[Act.put,sA,sB,sC];refine stage_quiet 1 (by kernel_rfl) ?_;simp only[tA,tB,tC,tD];(repeat go_big_quiet_step (fail));refine wpQuiet_nil ?_;refine stage_lay (fun b=>.pointer (some ⟨b,0,none⟩)) (.cells #[.pointer none,.pointer (some ⟨rt,0,none⟩),.pointer none,.pointer (some ⟨lb,0,none⟩),.pointer (some ⟨mb,0,none⟩),.pointer none,.map (some sm)] 40 (0,0)) (fun b=>blockC b (.cells #[.pointer none,.pointer (some ⟨rt,0,none⟩),.pointer none,.pointer (some ⟨lb,0,none⟩),.pointer (some ⟨mb,0,none⟩),.pointer none,.map (some sm)] 40 (0,0))) (by intro s s' h;simpa using h) rfl rfl (fun _ _ h=>InGW.of h.mod) (fun w' hw=>by kernel_rfl) (fun w' b h=>⟨h,rfl⟩) (fun hb=> ?_);simp only[Act.put,sA,sB,sC];refine stage_quiet 1 (by kernel_rfl) ?_;simp only[tA,tB,tC,tD];(repeat go_big_quiet_step (fail));refine wpQuiet_nil ?_;refine stage_nil fun w' hw'=> ?_
     exact⟨trivial,rt,lb,mb,sm,hb,rfl,(hw'.out 2 rfl).swap⟩
   case B2=>
    simp only[List.eraseIdx_cons_succ,List.eraseIdx_cons_zero];refine stage_lay (fun b=>.map (some b)) (.map #[] 0) (fun b=>stC b (fun _=>0)) (by intro s s' h;simpa using h) rfl rfl (fun _ _ h=>InGW.of h.mod) (fun w' hw=>by kernel_rfl) (fun w' b h=>st_new h) (fun sm=> ?_);simp only[Act.put,sA,sB,sC];refine stage_made (fun lb=>[Bw.ledC lb [],stC sm (fun _=>0),Ty.regC 170 rt []]) 95 #[] rfl Tryz.call95 rfl rfl (fun _ _ h=>InGW.of h.mod) (fun w' hw=>bnew_sc hw) (fun lb=> ?_);simp only[Act.put,sA,sB,sC];refine stage_quiet 2 (by kernel_rfl) ?_;simp only[tA,tB,tC,tD];(repeat go_big_quiet_step (fail));refine wpQuiet_nil ?_;refine stage_made (fun mb=>[meterC mb ⟨b,o,r⟩ (fun _=>Qt.Q.zero),Bw.ledC lb [],stC sm (fun _=>0),Ty.regC 170 rt []]) 96 #[.agg #[.int .i64 b,.int .i64 o,.int .i64 r]] rfl Tryz.call96 rfl rfl (fun _ _ h=>InGW.of h.mod) (fun w' hw=>qnew_sc hw ⟨b,o,r⟩ hlimH.out) (fun mb=> ?_);simp only[Act.put,sA,sB,sC];refine stage_quiet 1 (by kernel_rfl) ?_;simp only[tA,tB,tC,tD];(repeat go_big_quiet_step (fail));refine wpQuiet_nil ?_;refine stage_lay (fun b=>.pointer (some ⟨b,0,none⟩)) (.cells #[.pointer none,.pointer (some ⟨rt,0,none⟩),.pointer none,.pointer (some ⟨lb,0,none⟩),.pointer (some ⟨mb,0,none⟩),.pointer none,.map (some sm)] 40 (0,0)) (fun b=>blockC b (.cells #[.pointer none,.pointer (some ⟨rt,0,none⟩),.pointer none,.pointer (some ⟨lb,0,none⟩),.pointer (some ⟨mb,0,none⟩),.pointer none,.map (some sm)] 40 (0,0))) (by intro s s' h;simpa using h) rfl rfl (fun _ _ h=>InGW.of h.mod) (fun w' hw=>by kernel_rfl) (fun w' b h=>⟨h,rfl⟩) (fun hb=> ?_);simp only[Act.put,sA,sB,sC];refine stage_quiet 1 (by kernel_rfl) ?_;simp only[tA,tB,tC,tD];(repeat go_big_quiet_step (fail));refine wpQuiet_nil ?_;refine stage_nil fun w' hw'=> ?_
    exact⟨trivial,rt,lb,mb,sm,hb,rfl,(hw'.out 3 rfl).swap⟩
  case B1=>
   simp only[Nat.reduceSub,List.eraseIdx_cons_succ,List.eraseIdx_cons_zero];refine stage_lay (fun b=>.map (some b)) (.map #[] 0) (fun b=>stC b (fun _=>0)) (by intro s s' h;simpa using h) rfl rfl (fun _ _ h=>InGW.of h.mod) (fun w' hw=>by kernel_rfl) (fun w' b h=>st_new h) (fun sm=> ?_);simp only[Act.put,sA,sB,sC];refine stage_made (fun rt=>[Ty.regC 170 rt [],stC sm (fun _=>0)]) 94 #[] rfl Tryz.call94 rfl rfl (fun _ _ h=>InGW.of h.mod) (fun w' hw=>tynew_sc hw) (fun rt=> ?_);simp only[Act.put,sA,sB,sC];refine stage_made (fun lb=>[Bw.ledC lb [],Ty.regC 170 rt [],stC sm (fun _=>0)]) 95 #[] rfl Tryz.call95 rfl rfl (fun _ _ h=>InGW.of h.mod) (fun w' hw=>bnew_sc hw) (fun lb=> ?_);simp only[Act.put,sA,sB,sC];refine stage_quiet 2 (by kernel_rfl) ?_;simp only[tA,tB,tC,tD];(repeat go_big_quiet_step (fail));refine wpQuiet_nil ?_;refine stage_made (fun mb=>[meterC mb ⟨b,o,r⟩ (fun _=>Qt.Q.zero),Bw.ledC lb [],Ty.regC 170 rt [],stC sm (fun _=>0)]) 96 #[.agg #[.int .i64 b,.int .i64 o,.int .i64 r]] rfl Tryz.call96 rfl rfl (fun _ _ h=>InGW.of h.mod) (fun w' hw=>qnew_sc hw ⟨b,o,r⟩ hlimH.out) (fun mb=> ?_);simp only[Act.put,sA,sB,sC];refine stage_quiet 1 (by kernel_rfl) ?_;simp only[tA,tB,tC,tD];(repeat go_big_quiet_step (fail));refine wpQuiet_nil ?_;refine stage_lay (fun b=>.pointer (some ⟨b,0,none⟩)) (.cells #[.pointer none,.pointer (some ⟨rt,0,none⟩),.pointer none,.pointer (some ⟨lb,0,none⟩),.pointer (some ⟨mb,0,none⟩),.pointer none,.map (some sm)] 40 (0,0)) (fun b=>blockC b (.cells #[.pointer none,.pointer (some ⟨rt,0,none⟩),.pointer none,.pointer (some ⟨lb,0,none⟩),.pointer (some ⟨mb,0,none⟩),.pointer none,.map (some sm)] 40 (0,0))) (by intro s s' h;simpa using h) rfl rfl (fun _ _ h=>InGW.of h.mod) (fun w' hw=>by kernel_rfl) (fun w' b h=>⟨h,rfl⟩) (fun hb=> ?_);simp only[Act.put,sA,sB,sC];refine stage_quiet 1 (by kernel_rfl) ?_;simp only[tA,tB,tC,tD];(repeat go_big_quiet_step (fail));refine wpQuiet_nil ?_;refine stage_nil fun w' hw'=> ?_
   exact⟨trivial,rt,lb,mb,sm,hb,rfl,(hw'.out 4 rfl).swap⟩
 intro rt lb mb sm hb w2 hw2;have hS3:=Lib.hid (scene_joinNew hS2.out hw2);simp only[List.cons_append,List.nil_append]at hS3;have c1:=cells_of (hS3.out.block 5 rfl);have c2:=cells_of (hS3.out.block 0 rfl);clear k1 hS2 hw2;go_wp2_with fail;refine(arnew_ok hS3.out size (by have:=hfH.out;omega) (by have:=hfH.out;omega)).mono ?_;rintro e w3 ⟨ar,rfl,hS4⟩;have hS4:=Lib.hid hS4;have c2:=cells_of (hS4.out.block 1 rfl);have f2:=frozen_of (hS4.out.block 1 rfl);have hS5:=Lib.hid (hS4.out.blockSet 1 rfl 0 (.pointer (some ⟨ar,0,none⟩)));have c3:=cells_of (hS5.out.block 6 rfl);clear hS3 c1;go_wp2_with fail;refine(Tb.tnew_ok n first (by have:=hfH.out;omega) (by have:=hfH.out;omega) h1.2 hS5.out).mono ?_;rintro e w4 ⟨tb,ev,bt,pb,sl,rfl,hS6⟩;have hS6:=Lib.hid hS6;have c2:=cells_of (hS6.out.block 2 rfl);have f2:=frozen_of (hS6.out.block 2 rfl);have hS7:=Lib.hid (hS6.out.blockSet 2 rfl 2 (.pointer (some ⟨tb,0,none⟩)));have c3:=cells_of (hS7.out.block 7 rfl);clear hS4 hS5;go_wp2_with fail;refine(lognew_ok cap (by have:=hfH.out;omega) (by have:=hfH.out;omega) _).mono ?_;rintro e w5 ⟨rfl,rfl⟩;have hS8:=Lib.hid (hS7.out.add (c:=logC (w4.setCell ⟨hb,2,none⟩ (.pointer (some ⟨tb,0,none⟩))).heap.size cap [] []) (f:=_) ((Mod.refl [] _).alloc _) (log_fresh cap (at_alloc _ _)) (by simp));have c2:=cells_of (hS8.out.block 3 rfl);have f2:=frozen_of (hS8.out.block 3 rfl);generalize(w4.setCell ⟨hb,2,none⟩ (.pointer (some ⟨tb,0,none⟩))).alloc (.cells #[.int .i64 cap,.slice none 0 0,.slice none 0 0,.int .u64 0,.map none,.map none] 208)=w6 at*;generalize(w4.setCell ⟨hb,2,none⟩ (.pointer (some ⟨tb,0,none⟩))).heap.size=gb at*;have hS9:=Lib.hid (hS8.out.blockSet 3 rfl 5 (.pointer (some ⟨gb,0,none⟩)));clear hS6 hS7 hS8 c3;go_wp2_with fail;go_ret2;refine⟨⟨hb,ar,rt,tb,lb,mb,gb,sm,ev,bt,pb,sl⟩,rfl,?_⟩;have h9:=(((((((((hS9.out.out 4 rfl).out 1 rfl).out 5 rfl).out 6 rfl).out 4 rfl).out 7 rfl).out 6 rfl).out 7 rfl).erase 8);exact hp_close (a:=⟨hb,ar,rt,tb,lb,mb,gb,sm,ev,bt,pb,sl⟩) (c:=hcOf ⟨n,size,first,cap,b,o,r,frames,stack⟩) (s':=newS (hcOf ⟨n,size,first,cap,b,o,r,frames,stack⟩)) (newS_used _).symm (fun p=>(newS_has _ p).symm) (by rw[newS_obs];exact ar_new (by have:=hfH.out;simp only[hcOf];omega)) h9
theorem hnew_bad (f:Cf) (hf:¬cfOk f) (w:World):Calls Tryz.prog 33 #[.agg (cfA f)] w fun e w'=>e=.returned (.tuple #[.pointer none,.int .i64 1])∧Mod [] w w':=by
 have hck:=Lib.hid (check_ok f);rw[cfE_bad hf]at hck;obtain⟨n,size,first,cap,b,o,r,frames,stack⟩:=f;unfold cfA at hck⊢;simp only at hck⊢;have hS1:=Lib.hid ((Scene.empty w).alloc (.cells #[.int .i64 n,.int .i64 size,.int .u32 first,.int .i64 cap,.int .i64 b,.int .i64 o,.int .i64 r,.int .i64 frames,.int .i64 stack] 81));clear hf;go_enter Tryz.func33,Tryz.ntmps33;go_wp2_with fail;refine(hck.out _).mono ?_;rintro e w1 ⟨rfl,hm⟩;have hS2:=Lib.hid (hS1.out.then hm);clear hm hck hS1;go_wp2_with fail;go_ret2;exact⟨rfl,hS2.out.mod⟩
end Go.Proofs.YtapbeogoojejmaaGreat
namespace Go.Proofs.YtapbeogoojejmaaGreat
open Go Go.RowKit Go.Stg
def awT:Ty.Ty:=(0,[(4,0)])
def awF:Cf:=⟨2,64,1,20,64,2,2,1,0⟩
def awC:HC:=hcOf awF
def aw1:HS:=defS (newS awC) awT
def aw2:HS:=(startD aw1 1).2
def aw3:HS:=(startD aw2 2).2
def awH:Int:=72057594054705152
def aw4a:HS:={aw3 with T:=Tb.issT 1 aw3.T 1 1 0 16 0,mem:=aw3.mem.set (Tb.pickS aw3.T.g.F 0) (List.replicate 8 0)}
def aw4:HS:=logA awC aw4a ⟨1,1,awH,1,0⟩
def aw5:HS:=(opShare awC aw4 1 awH 2).2
def aw6:HS:=(opSet awC aw5 1 awH 0 5).2
def aw7:HS:=(opRelease awC aw6 2 awH).2
def aw8:HS:=(opGet awC aw7 2 awH 0).2
theorem awF_ok:cfOk awF:=by unfold cfOk awF;simp only;omega
theorem awC_ok:awC.Ok:=hcOf_ok awF_ok (by unfold awF;simp only;omega) (by unfold awF;simp only;omega)
theorem free_none {c:HC} (hc:c.Ok) {s:HS} (h:liveE c s=[]):freeH c s=gap 0 c.size:=by
 unfold freeH usedH;rw[h];exact frOf_nil hc.s1
theorem aw_reg:Ty.regTag (newS awC).R awT=1∧Ty.regErr (newS awC).R awT=0:=⟨by kernel_rfl,by kernel_rfl⟩
theorem aw_start1:(startD aw1 1).1=0:=by kernel_rfl
theorem aw_start2:(startD aw2 2).1=0:=by kernel_rfl
theorem aw_free:freeH awC aw3=[(0,64)]:=by
 rw[free_none awC_ok (by show liveE awC (newS awC)=[];exact newS_live awC)];kernel_rfl
theorem aw_allocE:allocE awC aw3 1 1=0:=by
 unfold allocE;rw[aw_free];kernel_rfl
theorem aw_allocX:allocX awC aw3 1=(0,16):=by
 unfold allocX;rw[aw_free];kernel_rfl
theorem aw_allocH:allocH awC aw3 1 1 0=awH:=by
 unfold allocH;rw[if_pos aw_allocE];kernel_rfl
theorem aw_alloc:opAlloc awC aw3 1 1 0=(0,aw4):=by
 have h1:allocS awC aw3 1 1 0=aw4a:=by
  unfold allocS;rw[if_pos aw_allocE,aw_allocX];kernel_rfl
 have h2:act awC aw3 1 1 awH (u64 1) (0,aw4a)=(0,aw4):=by kernel_rfl
 unfold opAlloc;rw[aw_allocH,aw_allocE,h1];exact h2
theorem aw_allocHo:opAllocH awC aw3 1 1 0=awH:=by
 unfold opAllocH;rw[aw_alloc,if_pos rfl,aw_allocH]
theorem aw_share:(opShare awC aw4 1 awH 2).1=0:=by kernel_rfl
theorem aw_set:(opSet awC aw5 1 awH 0 5).1=14:=by kernel_rfl
theorem aw_release:(opRelease awC aw6 2 awH).1=0:=by kernel_rfl
theorem aw_get:(opGet awC aw7 2 awH 0).1=13:=by kernel_rfl
theorem aw_set2:(opSet awC aw8 1 awH 0 5).1=0:=by kernel_rfl
theorem aw_inv3:HInv awC 2 aw3:=inv_start (inv_start (inv_def (newS_inv awC_ok) awT) 1) 2
theorem aw_inv4:HInv awC 4 aw4:=by
 have:=inv_opAlloc awC_ok aw_inv3 1 1 0;rw[aw_alloc]at this;exact this
theorem awH_range:0≤awH∧awH≤18446744073709551615:=by unfold awH;omega
theorem aw_inv5:HInv awC 6 aw5:=inv_opShare awH_range.1 awH_range.2 aw_inv4 1 2
theorem aw_inv6:HInv awC 8 aw6:=inv_opSet awH_range.1 awH_range.2 awC_ok aw_inv5 1 0 5
theorem aw_inv7:HInv awC 10 aw7:=inv_opRelease awH_range.1 awH_range.2 aw_inv6 2
theorem aw_inv8:HInv awC 12 aw8:=inv_opGet awH_range.1 awH_range.2 awC_ok aw_inv7 2 0
end Go.Proofs.YtapbeogoojejmaaGreat
namespace Go.Proofs.YtapbeogoojejmaaGreat
open Go Go.RowKit Go.Stg
theorem append_ev {lb:Nat} {cap:Int} {evs:List Ev} {miss:List Int} {w:World} {f:List Nat} (h:(logC lb cap evs miss).on w f) {e:Ev} (he:e.ok) (hc:e.counts=false) (hn:evs.length≤100000):
  Calls Tryz.prog 64 #[.pointer (some ⟨lb,0,none⟩),.agg #[.int .i64 e.p,.int .i64 e.op,.int .u64 e.h,.int .u64 e.arg,.int .i64 e.err]] w (Takes (logC lb cap (evs++[e]) miss) (.int .i64 0) w f):=by
 have:=logappend_ok h he hn;have e1:appE cap evs e=0:=by unfold appE;rw[if_neg (by simp[hc])]
 have e2:appL cap evs e=evs++[e]:=by unfold appL;rw[if_neg (by simp[hc])]
 rw[e1,e2]at this;exact this
theorem start_op {F:List Nat} {W w:World} {cs:List Comp} {a:HA} {c:HC} {k:Nat} {s:HS} (hI:HInv c k s) (hk:k≤900) {p:Int} (hS:Scene F W (hpA a c s::cs) w):
  Calls Tryz.prog 12 #[.pointer (some ⟨a.hb,0,none⟩),.int .i64 p] w fun e w'=>e=.returned (.int .i64 (startD s p).1)∧Scene F W (hpA a c (startD s p).2::cs) w':=by
 obtain⟨B,hB,hS0⟩:=hp_open hS;have hel:=hI.evk;have hwk:=Lib.hid fun w' (hm:Mod [] w w')=>works_ok (hm.at (hS0.block 0 rfl) (by simp))
 have hir:=Lib.hid fun w'=>inrange_ok p 1 64 w'
 by_cases hr:1≤p∧p≤64
 ·have hr1:(decide (1≤p)&&decide (p≤64))=true:=by simp[hr.1,hr.2]
  rw[hr1]at hir;have hrs:∀x y:Int×HS,(if p<1∨64<p then x else y)=y:=fun x y=>if_neg (by omega)
  unfold startD;rw[hrs];have hrH:=Lib.hid hr;by_cases hst:s.st p=0
  ·rw[if_neg (by simp[hst])];have hBH:=Lib.hid hB;have hstH:=Lib.hid hst;have hS1:=Lib.hid hS0;clear hS hS0 hB hr hr1 hrs;have hd1:decide (s.st p≠0)=false:=by simp[hst]
   have hdH:=Lib.hid hd1;clear hd1 hst;go_enter Tryz.func12,Tryz.ntmps12;go_wp2_with fail;refine(hir.out _).mono ?_;rintro e w1 ⟨rfl,hm1⟩;have hm1H:=Lib.hid hm1;clear hm1 hir;go_wp2_with fail;refine(hwk.out _ hm1H.out).mono ?_;rintro e w2 ⟨rfl,hm2⟩;have hS2:=Lib.hid (hS1.out.then (hm1H.out.nil_then hm2));have c1:=cells_of (hS2.out.block 0 rfl);obtain⟨fs,hs2,hput⟩:=hS2.out.part 7 rfl;have hlk:=hs2.1.look2 p;rw[hdH.out]at hlk;obtain⟨w3,hup,hst3,hm3⟩:=hs2.1.put p true;have hfs:=hs2.2;subst hfs;have hS3:=Lib.hid (hput w3 [a.sm] (stC a.sm (setI s.st p 1)) ⟨hst3,rfl⟩ hm3 (fun x hx=>.inl hx));have c2:=cells_of (hS3.out.block 0 rfl);clear hm2 hwk hm1H hS1 hS2 hs2 hput hst3 hm3;go_wp2_with fail;obtain⟨fl,hl,hput⟩:=hS3.out.part 6 rfl;refine(append_ev hl (e:=⟨p,32,0,0,0⟩) ⟨hrH.out,.inr (.inl rfl),by simp only;omega,by simp only;omega,by simp only;omega⟩ rfl (by omega)).mono ?_;rintro e w4 ⟨f',rfl,q1,q2,q3⟩;have hS4:=Lib.hid (hput w4 f' _ q1 q2 q3);clear hl hput q1 q2 q3 hS3 c1 c2 hlk hup;go_wp2_with fail;go_ret;exact⟨rfl,hp_close (s':={s with st:=setI s.st p 1,evs:=s.evs++[⟨p,32,0,0,0⟩]}) rfl (fun _=>rfl) hBH.out hS4.out⟩
  ·rw[if_pos hst];have hd1:decide (s.st p≠0)=true:=by simp[hst]
   have hdH:=Lib.hid hd1;have hBH:=Lib.hid hB;have hS1:=Lib.hid hS0;clear hS hS0 hB hr hr1 hrs hd1 hst hel;go_enter Tryz.func12,Tryz.ntmps12;go_wp2_with fail;refine(hir.out _).mono ?_;rintro e w1 ⟨rfl,hm1⟩;have hm1H:=Lib.hid hm1;clear hm1 hir;go_wp2_with fail;refine(hwk.out _ hm1H.out).mono ?_;rintro e w2 ⟨rfl,hm2⟩;have hS2:=Lib.hid (hS1.out.then (hm1H.out.nil_then hm2));have c1:=cells_of (hS2.out.block 0 rfl);have hlk:=(scene_st 7 hS2.out rfl).look2 p;rw[hdH.out]at hlk;clear hm2 hwk hm1H hS1;go_wp2_with fail;go_ret;exact⟨rfl,hp_shut hBH.out hS2.out⟩
 ·have hr1:(decide (1≤p)&&decide (p≤64))=false:=by
   rw[Bool.and_eq_false_iff];simp only[decide_eq_false_iff_not];omega
  rw[hr1]at hir;have hrs:∀x y:Int×HS,(if p<1∨64<p then x else y)=x:=fun x y=>if_pos (by omega)
  unfold startD;rw[hrs];have hSH:=Lib.hid hS;clear hS hS0 hB hr hr1 hrs hwk hel;go_enter Tryz.func12,Tryz.ntmps12;go_wp2_with fail;refine(hir.out _).mono ?_;rintro e w1 ⟨rfl,hm1⟩;have hm1H:=Lib.hid hm1;clear hm1 hir;go_wp2_with fail;go_ret;exact⟨rfl,hSH.out.then hm1H.out⟩
end Go.Proofs.YtapbeogoojejmaaGreat
namespace Go.Proofs.YtapbeogoojejmaaGreat
open Go Go.RowKit Go.Stg
open Ty (FieldsAt fcells)
section
variable {F:List Nat} {W w:World} {cs:List Comp} {a:HA} {c:HC} {s:HS}
theorem hdefine_ok (hS:Scene F W (hpA a c s::cs) w) (len:Int) (v:Value) (fs:List Ty.Fld) (hF:FieldsAt w v fs) (hn: -9223372036854775808≤len) (hn2:len≤9223372036854775807):
  Calls Tryz.prog 7 #[.pointer (some ⟨a.hb,0,none⟩),.agg #[.int .i64 len,v]] w fun e w'=>e=.returned (.tuple #[.int .i64 (Ty.regTag s.R (len,fs)),.int .i64 (Ty.regErr s.R (len,fs))])∧Scene F W (hpA a c (defS s (len,fs))::cs) w':=by
 obtain⟨va,vl,vc,rfl⟩:=Ty.FieldsAt.slice hF;obtain⟨B,hB,hS0⟩:=hp_open hS;have hBH:=Lib.hid hB;have hFH:=Lib.hid hF;have hwk:=Lib.hid fun w' (hm:Mod [] w w')=>works_ok (hm.at (hS0.block 0 rfl) (by simp))
 have hm0:=Lib.hid ((Mod.refl [] w).alloc (.cells #[.int .i64 len,.slice va vl vc] 27));have hS1:=Lib.hid ((hS0.alloc (.cells #[.int .i64 len,.slice va vl vc] 27)));have hnH:=Lib.hid (And.intro hn hn2);clear hS hS0 hB hF hn hn2;go_enter Tryz.func7,Tryz.ntmps7;go_wp2_with fail;refine(hwk.out _ hm0.out).mono ?_;rintro e w1 ⟨rfl,hm⟩;have hS2:=Lib.hid (hS1.out.then hm);have hm1:=Lib.hid (hm0.out.nil_then hm);clear hwk hS1 hm0 hm;go_wp2_with fail;generalize w.heap.size=bx at*;obtain⟨fa,hl,hput,hne⟩:=hS2.out.takePart 3 rfl;have k1:=GW.cells (S:=fa) (hS2.out.block 1 rfl) (hne 1 _ _ rfl);have k2:=GW.cells (S:=fa) (hS2.out.block 0 rfl) (hne 0 _ _ rfl);have hlH:=Lib.hid fun w' (hm:Mod [] w1 w')=>Ty.register_ok (hl w' hm) len (.slice va vl vc) fs ((hFH.out.mod hm1.out).mod hm) hnH.out.1 hnH.out.2
 have hputH:=Lib.hid hput;clear hl hput hne;refine wp_region_part fa (by kernel_rfl) (by kernel_rfl) ?_;refine stage_quiet 5 (by kernel_rfl) ?_;simp only[tA,tB,tC,tD];(repeat go_big_quiet_step (fail));refine wpQuiet_nil ?_;refine stage_takes 40 #[.pointer (some ⟨a.rt,0,none⟩),.agg #[.int .i64 len,.slice va vl vc]] (.tuple #[.int .i64 (Ty.regTag s.R (len,fs)),.int .i64 (Ty.regErr s.R (len,fs))]) rfl Tryz.call40 rfl rfl hlH.out ?_;simp only[Act.put,sA,sB,sC];refine stage_quiet 4 (by kernel_rfl) ?_;simp only[tA,tB,tC,tD];(repeat go_big_quiet_step (fail));refine wpQuiet_nil ?_;refine stage_nil fun w2 hw2=> ?_
 have hS3:=Lib.hid (hputH.out w2 _ hw2);clear k1 k2 hlH hputH hw2 hS2;go_wp2_with fail;go_ret2;refine⟨rfl,?_⟩;exact hp_shut (s:=defS s (len,fs)) (B:=B) hBH.out (hS3.out.erase 0)
end
end Go.Proofs.YtapbeogoojejmaaGreat
namespace Go.Proofs.YtapbeogoojejmaaGreat
open Go Go.RowKit Go.Stg
def getW (s:HS) (p o i:Int):Int:=if fieldE s p o 1 i=0 then getV s o i else 0
theorem get_c {F:List Nat} {W w:World} {cs:List Comp} {a:HA} {c:HC} {k:Nat} {s:HS} (hc:c.Ok) (hI:HInv c k s) (hk:k≤1000) {p o i:Int} (o0:0≤o) (o1:o≤18446744073709551615) {e0:Comp} {bo bp bh bi bv:Nat}
  (hS:Scene F W (hpA a c s::e0::blockC bv (.cells #[.int .u64 0] 22 (0,0))::blockC bi (.cells #[.int .i64 i] 3 (0,0))::blockC bo (.cells #[.int .u64 o] 23 (0,0))::blockC bp (.cells #[.int .i64 p] 3 (0,0))::blockC bh (.cells #[.pointer (some ⟨a.hb,0,none⟩)] 31 (0,0))::cs) w):
  Calls Tryz.prog 51 #[.pointer (some ⟨bh,0,none⟩),.pointer (some ⟨bp,0,none⟩),.pointer (some ⟨bo,0,none⟩),.pointer (some ⟨bi,0,none⟩),.pointer (some ⟨bv,0,none⟩)] w fun e w'=>e=.returned (.int .i64 (fieldE s p o 1 i))∧Scene F W (hpA a c s::e0::blockC bv (.cells #[.int .u64 (getW s p o i)] 22 (0,0))::blockC bi (.cells #[.int .i64 i] 3 (0,0))::blockC bo (.cells #[.int .u64 o] 23 (0,0))::blockC bp (.cells #[.int .i64 p] 3 (0,0))::blockC bh (.cells #[.pointer (some ⟨a.hb,0,none⟩)] 31 (0,0))::cs) w':=by
 obtain⟨B,hB,hS0⟩:=hp_open hS;have hfi:=Lib.hid (field_ok hc hI hk hS0 p o 1 i o0 o1);have c1:=cells_of (hS0.block 10 rfl);have c2:=cells_of (hS0.block 11 rfl);have c3:=cells_of (hS0.block 12 rfl);have c4:=cells_of (hS0.block 13 rfl);have hS1:=Lib.hid hS0;have hBH:=Lib.hid hB;by_cases hE:fieldE s p o 1 i=0
 ·obtain⟨hacc,hty,hpe,hk6⟩:=fieldE_zero hc hI hE;obtain⟨off,n,hpo,hpn,hwo,hpfit⟩:=place_in hty hpe hk6;obtain⟨j,xo,xl,hj,hjn,hlv,hent,hxo,hxl,hby,hmx,hms,hus,hob⟩:=ob_at hI (acc_res hacc);have hms':((memH s j).length:Int)=Ty.sizeT (tyH s o).1 (tyH s o).2:=hms;have hgw:getW s p o i=little ((B.drop (xo+off)).take n):=by
   unfold getW getV;rw[if_pos hE,hpo,hpn,hby];unfold cutB;rw[Int.toNat_natCast,Int.toNat_natCast];have hu:=hI.uok;rw[←obs_used]at hu;have:=hB.read hu hob (p:=off) (n:=n) (by simp only;omega) (by simp only;omega);simp only[Int.toNat_natCast]at this;rw[this]
  have hst:=Lib.hid fun w' f' (h':(arC a.ar c.size (usedH c s) B).on w' f')=>arload_ok h' hus off n (by omega) hwo
  rw[←hgw]at hst;generalize getW s p o i=G at*;have hEH:=Lib.hid hE;have hxoH:=Lib.hid hxo;have hxlH:=Lib.hid hxl;have hpoH:=Lib.hid (And.intro hpo hpn);clear hS hS0 hB hE hacc hty hpe hk6 hpo hpn hpfit hj hlv hent hxo hxl hby hmx hms hms' hus hob hgw;go_enter Tryz.func51,Tryz.ntmps51;go_wp2_with fail;refine hfi.out.mono ?_;rintro e w1 ⟨xh,xw,xt,xf,xn,p1,p2,p3,rfl,hm1,hz⟩;obtain⟨hz1,hz2⟩:=hz hEH.out;have hxf:xf=xo:=by rw[←hxoH.out,hz1]
  have hxn:xn=xl:=by rw[←hxlH.out,hz1]
  have hp1:p1=off:=by rw[←hpoH.out.1,hz2]
  have hp2:p2=n:=by rw[←hpoH.out.2,hz2]
  subst hxf hxn hp1 hp2;rw[hEH.out];have hS2:=(((hS1.out.then hm1).alloc (.cells #[.int .u64 xh,.int .i64 xw,.int .i64 xt,.int .i64 xo,.int .i64 xl] 110)).behind.alloc (.cells #[.int .i64 off,.int .i64 n,.int .i64 p3] 112)).behind;rw[size_alloc]at hS2;have hS2:=Lib.hid hS2;clear hm1 hS1 hz hz1 hz2 hfi c1 c2 c3 c4 hxoH hxlH hpoH;go_wp2_with fail;generalize w1.heap.size=bx at*;generalize(w1.alloc (.cells #[.int .u64 xh,.int .i64 xw,.int .i64 xt,.int .i64 xo,.int .i64 xl] 110)).alloc (.cells #[.int .i64 off,.int .i64 n,.int .i64 p3] 112)=W1 at*;obtain⟨fv,⟨hbv,rfl⟩,hput,hne⟩:=hS2.out.partB 11 rfl;have k1:=GW.cells (S:=[bv]) (hS2.out.block 0 rfl) (hne 0 _ _ rfl);have k2:=GW.cells (S:=[bv]) (hS2.out.block 8 rfl) (hne 8 _ _ rfl);have k3:=GW.cells (S:=[bv]) (hS2.out.block 9 rfl) (hne 9 _ _ rfl);have k5:=GW.cells (S:=[bv]) (hS2.out.block 15 rfl) (hne 14 _ _ rfl);have hlH:=Lib.hid fun w' (hm:Mod [] W1 w')=>hst.out w' _ ((hS2.out.then hm).part 1 rfl).choose_spec.1
  have hbvH:=Lib.hid hbv;clear hput hne hst hbv;refine wp_region_part [bv] (by kernel_rfl) (by kernel_rfl) ?_;refine stage_quiet 10 (by kernel_rfl) ?_;simp only[tA,tB,tC,tD];(repeat go_big_quiet_step (fail));refine wpQuiet_nil ?_;refine stage_look 53 #[.pointer (some ⟨a.ar,0,none⟩),.agg #[.int .i64 xo,.int .i64 xl],.int .i64 off,.int .i64 n] (.tuple #[.int .u64 G,.int .i64 0]) rfl Tryz.call53 rfl rfl hlH.out ?_;simp only[Act.put,sA,sB,sC];refine stage_quiet 3 (by kernel_rfl) ?_;simp only[tA,tB,tC,tD];(repeat go_big_quiet_step (fail));refine wpQuiet_nil ?_;refine stage_set (p:=⟨bv,0,none⟩) (u:=.int .u64 G) (fun w'=>w'.setCell ⟨bv,0,none⟩ (.int .u64 G)) (fun w'=>∃w0,Mod [] W1 w0∧w'=w0.setCell ⟨bv,0,none⟩ (.int .u64 G)) rfl rfl rfl rfl rfl (fun w' hw=> ?_) (fun w' hw=>⟨w',hw,rfl⟩) (fun w' ⟨w0,hw,e⟩=> ?_) ?_
  ·have d1:=cells_of (hw.at hbvH.out (by simp));have d2:=frozen_of (hw.at hbvH.out (by simp));clear k1 k2 k3 k5 hw;go_simp
  ·subst e;exact InGW.of ((hw.mono (by simp)).setCell (.inl (by simp)) _)
  refine stage_quiet 1 (by kernel_rfl) ?_;simp only[tA,tB,tC,tD];(repeat go_big_quiet_step (fail));refine wpQuiet_nil ?_;refine stage_nil fun w2 hw2=> ?_
  obtain⟨w0,hm0,rfl⟩:=hw2;have hS3:=Lib.hid ((((hS2.out.then hm0).blockSet 11 rfl 0 (.int .u64 G)).erase 8).erase 8);clear k1 k2 k3 k5 hlH hm0 hS2;go_wp2_with fail;go_ret;exact⟨by rw[hEH.out];rfl,hp_shut hBH.out hS3.out⟩
 ·have hfd:getW s p o i=0:=by unfold getW;rw[if_neg hE]
  rw[hfd];generalize hEg:fieldE s p o 1 i=E at*;have hne:(E != 0)=true:=by simpa using hE
  have hEgH:=Lib.hid hEg;clear hS hS0 hB hfd hE hEg;go_enter Tryz.func51,Tryz.ntmps51;go_wp2_with fail;refine hfi.out.mono ?_;rintro e w1 ⟨xh,xw,xt,xf,xn,p1,p2,p3,rfl,hm1,_⟩;rw[hEgH.out];have hS2:=Lib.hid (hS1.out.then (((Mod.refl [] w1).alloc (.cells #[.int .u64 xh,.int .i64 xw,.int .i64 xt,.int .i64 xf,.int .i64 xn] 110)).alloc (.cells #[.int .i64 p1,.int .i64 p2,.int .i64 p3] 112) |> hm1.nil_then));clear hm1 hS1 hfi c1 c2 c3 c4;go_wp2_with fail;go_ret;exact⟨rfl,hp_shut hBH.out hS2.out⟩
theorem get_op {F:List Nat} {W w:World} {cs:List Comp} {a:HA} {c:HC} {k:Nat} {s:HS} (hc:c.Ok) (hI:HInv c k s) (hk:k≤900) {p o i:Int} (o0:0≤o) (o1:o≤18446744073709551615) (hS:Scene F W (hpA a c s::cs) w):
  Calls Tryz.prog 9 #[.pointer (some ⟨a.hb,0,none⟩),.int .i64 p,.int .u64 o,.int .i64 i] w fun e w'=>e=.returned (.tuple #[.int .u64 (opGetV c s p o i),.int .i64 (opGet c s p o i).1])∧Scene F W (hpA a c (opGet c s p o i).2::cs) w':=by
 have hS1:=((((((((hS.alloc (.cells #[.pointer (some ⟨a.hb,0,none⟩)] 31)).swap.alloc (.cells #[.int .i64 p] 3)).swap.alloc (.cells #[.int .u64 o] 23)).swap.alloc (.cells #[.int .i64 i] 3)).swap.alloc (.cells #[.int .u64 0] 22)).swap.alloc (.cells #[.int .i64 p,.int .i64 3,.int .u64 o,.int .u64 (u64 i),.int .i64 0] 98)).swap));simp only[size_alloc]at hS1;have hr:=fieldE_range hc hI p o 1 i;have hu:0≤u64 i∧u64 i≤18446744073709551615:=by unfold u64;omega
 have hact:=Lib.hid (act_quiet (r:=fieldE s p o 1 i) (g:=51) hI (by omega) hS1 (by omega) hu Tryz.call51 hr ⟨o0,o1⟩ fun _ w' h'=>get_c hc hI (by omega) o0 o1 h');have hv1:s.st p≠1→opGetV c s p o i=0:=fun h=>by unfold opGetV opGet actQ;rw[if_pos h];simp
 have hv2:s.st p=1→opGetV c s p o i=getW s p o i:=fun h=>by
  unfold opGetV opGet actQ getW;by_cases e:fieldE s p o 1 i=0
  ·simp[h,e]
  ·simp[h,e]
 have hvH:=Lib.hid (And.intro hv1 hv2);have hog:actQ c s p 3 o (u64 i) (fieldE s p o 1 i)=opGet c s p o i:=rfl;rw[hog]at hact;generalize opGet c s p o i=res at*;generalize opGetV c s p o i=V at*;clear hS hS1 hr hv1 hv2 hog;go_enter Tryz.func9,Tryz.ntmps9;go_wp2_with fail;refine hact.out.mono ?_;rintro e w1 ⟨rfl,er2,cs2,hS2,hcs⟩;rcases hcs with⟨hst,rfl⟩|⟨hst,rfl⟩
 ·have e1:=hvH.out.1 hst;subst e1;have hS2:=Lib.hid hS2;have d1:=cells_of (hS2.out.block 2 rfl);clear hact hst;go_wp2_with fail;go_ret2;exact⟨rfl,(((((hS2.out.erase 1).erase 1).erase 1).erase 1).erase 1).erase 1⟩
 ·have e1:=hvH.out.2 hst;subst e1;have hS2:=Lib.hid hS2;have d1:=cells_of (hS2.out.block 2 rfl);clear hact hst;go_wp2_with fail;go_ret2;exact⟨rfl,(((((hS2.out.erase 1).erase 1).erase 1).erase 1).erase 1).erase 1⟩
end Go.Proofs.YtapbeogoojejmaaGreat
