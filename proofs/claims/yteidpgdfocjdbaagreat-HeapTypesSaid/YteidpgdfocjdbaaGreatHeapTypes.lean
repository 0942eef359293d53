/- HeapTypes: the walk through the law. -/
import Derived.Test.YteidpgdfocjdbaaGreatC00
import Derived.Test.YteidpgdfocjdbaaGreatC01
import Derived.Test.YteidpgdfocjdbaaGreatC02
import Derived.Test.YteidpgdfocjdbaaGreatC03
import Derived.Test.YteidpgdfocjdbaaGreatC04
import Derived.Test.YteidpgdfocjdbaaGreatC05
import Derived.Test.YteidpgdfocjdbaaGreatC06
import Derived.Test.YteidpgdfocjdbaaGreatC07
import Derived.Test.YteidpgdfocjdbaaGreatC08
import Derived.Test.YteidpgdfocjdbaaGreatC09
import Derived.Test.YteidpgdfocjdbaaGreatC10
import Derived.Test.YteidpgdfocjdbaaGreatC11
import Derived.Test.YteidpgdfocjdbaaGreatC13
import Derived.Test.YteidpgdfocjdbaaGreatC14
import Derived.Test.YteidpgdfocjdbaaGreatC15
import Derived.Test.YteidpgdfocjdbaaGreatC16
import Derived.Test.YteidpgdfocjdbaaGreatC17
import Derived.Test.YteidpgdfocjdbaaGreatC18
import Derived.Test.YteidpgdfocjdbaaGreatC19
import Derived.Test.YteidpgdfocjdbaaGreatC20
import Derived.Test.YteidpgdfocjdbaaGreatC22
import Derived.Test.YteidpgdfocjdbaaGreatC24
import Derived.Test.YteidpgdfocjdbaaGreatC26
import Derived.Test.YteidpgdfocjdbaaGreatC27
import Derived.Test.YteidpgdfocjdbaaGreatC28
import Derived.Test.YteidpgdfocjdbaaGreatC30
import Derived.Test.YteidpgdfocjdbaaGreatC31
import Derived.Test.YteidpgdfocjdbaaGreatC39
import Derived.Test.YteidpgdfocjdbaaGreatC40
import Derived.Test.YteidpgdfocjdbaaGreatC41
import Derived.Test.YteidpgdfocjdbaaGreatC42
import Derived.Test.YteidpgdfocjdbaaGreatC43
import Derived.Test.YteidpgdfocjdbaaGreatC44
import Derived.Test.YteidpgdfocjdbaaGreatCS
set_option maxHeartbeats 8000000
set_option maxRecDepth 20000
namespace Go.Proofs.YteidpgdfocjdbaaGreat
open Go Go.RowKit Go.Stg
def TyIn (W:World) (cs:List Comp) (v:Value) (fs:List Ty.Fld):Prop:=∀(ps:List Comp) (w:World),Scene [] W (ps++cs) w→Ty.FieldsAt w v fs
theorem TyIn.made {W:World} {cs:List Comp} {t:LitT} (i:Nat) (hi:cs[i]? =some (litRow t)):TyIn W cs (.slice (some ⟨t.2.1,0,none⟩) t.2.2.2.length t.2.2.1) t.2.2.2:=fun ps w hS=>
 Ty.row_fields (hS.row (ps.length+i) (by rw[List.getElem?_append_right (by omega),Nat.add_sub_cancel_left,hi];rfl)) rfl
def FourIn (W:World) (cs:List Comp) (xs:List Value):Prop:=
 ∀k,k<4→∃len a m c fs,xs[k*2]? =some (.int .i64 len)∧xs[k*2+1]? =some (.slice a m c)∧(-9223372036854775808≤len∧len≤9223372036854775807)∧TyIn W cs (.slice a m c) fs
theorem four_in {W:World} {cs:List Comp} {t1 t2 t3:LitT} {rl:Int} {a:Option Addr} {m c:Nat} {rf:List Ty.Fld} (i1:cs[4]? =some (litRow t1)) (i2:cs[3]? =some (litRow t2)) (i3:cs[2]? =some (litRow t3)) (h1:Ty.Made t1.1 t1.2.2.2) (h2:Ty.Made t2.1 t2.2.2.2) (h3:Ty.Made t3.1 t3.2.2.2) (hr:Ty.FieldsAt W (.slice a m c) rf) (r1: -9223372036854775808≤rl∧rl≤9223372036854775807):
  FourIn W cs [.int .i64 t1.1,.slice (some ⟨t1.2.1,0,none⟩) t1.2.2.2.length t1.2.2.1,.int .i64 rl,.slice a m c,.int .i64 t2.1,.slice (some ⟨t2.2.1,0,none⟩) t2.2.2.2.length t2.2.2.1,.int .i64 t3.1,.slice (some ⟨t3.2.1,0,none⟩) t3.2.2.2.length t3.2.2.1]:=by
 have b1:=Ty.made_bounds h1;have b2:=Ty.made_bounds h2;have b3:=Ty.made_bounds h3;intro k hk
 match k,hk with
 |0,_=>exact⟨_,_,_,_,_,rfl,rfl,by omega,TyIn.made 4 i1⟩
 |1,_=>exact⟨_,_,_,_,_,rfl,rfl,r1,fun ps w hS=>hr.mod hS.mod⟩
 |2,_=>exact⟨_,_,_,_,_,rfl,rfl,by omega,TyIn.made 3 i2⟩
 |3,_=>exact⟨_,_,_,_,_,rfl,rfl,by omega,TyIn.made 2 i3⟩
theorem reg_open {F:List Nat} {W w:World} {cs:List Comp} {T:TypeId} {rb:Nat} {R:List Ty.Ty} (h:Scene F W (Ty.regC T rb R::cs) w):∃sv L,L.map (·.1)=R∧(∀t∈R,Ty.TyOk t)∧R.length≤255∧Scene F W (Ty.regP T rb sv L++cs) w:=by
 obtain⟨h1,fp,⟨f,g,⟨sv,L,e1,e2,e3,hf⟩,hg,hd,rfl⟩,h2⟩:=h;exact⟨sv,L,e1,e2,e3,h1,f++g,hf.append hg hd,h2⟩
theorem tag_inv {c:HC} {k:Nat} {s:HS} (hc:c.Ok) (hI:HInv c k s) (p tag:Int):HInv c (k+2) (opAlloc c s p tag 0).2∧(opAlloc c s p tag 0).2.R=s.R:=⟨inv_opAlloc hc hI p tag 0,opAlloc_R p tag 0⟩
theorem types_walk (cv:Value) (xs:List Int) (rl:Int) (rv:Value) (rf:List Ty.Fld) (lv:Value) (ys:List Int) (W:World) (hx:Ty.NumsAt W cv xs) (hy:Ty.NumsAt W lv ys) (hF:Ty.FieldsAt W rv rf) (r1: -9223372036854775808≤rl) (r2:rl≤9223372036854775807):
  Calls Tryz.prog 3 #[cv,.agg #[.int .i64 rl,rv],lv] W fun e w'=>e=.returned (.bool true)∧Mod [] W w':=by
 have hxH:=Lib.hid hx;have hyH:=Lib.hid hy;have hFH:=Lib.hid hF;obtain⟨ra,rm,rc,rfl⟩:=hF.slice;have hfl:=fun ty w=>hF.len ty w
 have hSr:=Lib.hid ((Scene.empty W).alloc (.cells #[.int .i64 rl,.slice ra rm rc] 25));have c4:=cells_of (hSr.out.block 0 rfl);clear hx hy hF;go_enter Tryz.func3,Tryz.ntmps3;go_wp2_with fail;refine(awake_ok _).mono ?_;rintro e w1 ⟨rfl,hm1⟩;have hS1:=Lib.hid (hSr.out.then hm1);have c4:=cells_of (hS1.out.block 0 rfl);clear hSr hm1;by_cases h40:40<rf.length
 ·go_wp2_with fail;refine(awake_ok _).mono ?_;rintro e w2 ⟨rfl,hm2⟩;have hm3:=Lib.hid (hS1.out.mod.nil_then hm2);go_wp2_with fail;go_ret;exact⟨rfl,hm3.out⟩
 go_wp2_with fail;refine(Ty.sc_of hS1.out cv xs 12 (by omega) (hxH.out.mod hS1.out.mod (by simp))).mono ?_;rintro e w2 ⟨tc,A0,B0,rfl,hS2⟩;have hS2:=Lib.hid hS2;clear hS1 c4;go_wp2_with fail;refine(sc_config hS2.out (by omega)).mono ?_;rintro e w3 ⟨cf,rfl,hcm,hS3⟩;have hS3:=Lib.hid hS3;clear hS2;go_wp2_with fail;have hcR:(0≤cf.first∧cf.first≤4294967295)∧(cf.b≤9223372036854775807∧cf.o≤9223372036854775807∧cf.r≤9223372036854775807):=by unfold CfMade at hcm;omega
 refine(hnew_ok hS3.out cf hcm.ok hcR.1 hcR.2).mono ?_;rintro e w4 ⟨a,rfl,hS4⟩;have hcO:=hcOf_ok hcm.ok hcR.1 hcR.2;generalize hcOf cf=c at*;have hI0:=newS_inv hcO;have hS5:=Lib.hid (hS4.add (c:=Ty.regC 42 w4.heap.size []) ((Mod.refl [] w4).alloc (.cells #[.slice none 0 0] 42)) (Ty.reg_fresh 42 (at_alloc w4 _)) (by simp));clear hS3 hS4;go_wp2_with fail;generalize w4.heap.size=mb at*;refine(Ty.sc_of hS5.out lv ys 60 (by omega) (hyH.out.mod hS5.out.mod (by simp))).mono ?_;rintro e w5 ⟨tl,A,B,rfl,hS6⟩;have hS6:=Lib.hid hS6;clear hS5;go_wp2_with fail;obtain⟨cs,hcs,hb3,hS7⟩:∃cs,cs=(Ty.regC 42 mb []::hpA a c (newS c)::Ty.tapeC tc (0+12) A0 B0::[blockC W.heap.size (.cells #[.int .i64 rl,.slice ra rm rc] 25 (0,0))])∧cs[3]? =some (blockC W.heap.size (.cells #[.int .i64 rl,.slice ra rm rc] 25 (0,0)))∧Scene [] W (Ty.tapeC tl 0 A B::cs) w5:=⟨_,rfl,rfl,hS6.out⟩;have k4:=BW.cells (b:=W.heap.size) (cs:=#[.int .i64 rl,.slice ra rm rc]) (T:=25) (fr:=(0,0));refine wp_region_stage (fun w'=>∃x:BW W.heap.size (.cells #[.int .i64 rl,.slice ra rm rc] 25 (0,0)),w'=x.1) (fun w'=>Lits [] W cs tl A B 0 [] w') (by kernel_rfl) (by kernel_rfl) (fun w' h=>BW.of (lits_block h 3 hb3)) (lits_none hS7.drew) ?_;refine stage_quiet 1 (by kernel_rfl) ?_;simp only[List.take_succ_cons,List.take_zero,List.drop_succ_cons,List.drop_zero]
 repeat (go_big_quiet_step (fail))
 refine wpQuiet_nil ?_;refine stage_call_any 8 #[.pointer (some ⟨tl,0,none⟩)] (fun v=>∃l x m c,v=.agg #[.int .i64 l,.slice x m c]) (fun v w'=>Lits [] W cs tl A B 1 ([v]) w') rfl Tryz.call8 rfl rfl ⟨_,0,none,0,0,rfl⟩ (fun w' h=>(lits_step h (by omega)).mono fun e w'' ⟨v,he,hv,h'⟩=>⟨v,he,hv,h'⟩) (fun v w' h=>BW.of (lits_block h 3 hb3)) (fun v1 hv1=> ?_);obtain⟨l1,x1,m1,c1,rfl⟩:=hv1;simp only[Act.put,List.setIfInBounds_toArray,List.set_cons_succ,List.set_cons_zero];refine stage_quiet 2 (by kernel_rfl) ?_;simp only[List.take_succ_cons,List.take_zero,List.drop_succ_cons,List.drop_zero]
 repeat (go_big_quiet_step (fail))
 refine wpQuiet_nil ?_;refine stage_call_any 8 #[.pointer (some ⟨tl,0,none⟩)] (fun v=>∃l x m c,v=.agg #[.int .i64 l,.slice x m c]) (fun v w'=>Lits [] W cs tl A B 2 ([v,.agg #[.int .i64 l1,.slice x1 m1 c1]]) w') rfl Tryz.call8 rfl rfl ⟨_,0,none,0,0,rfl⟩ (fun w' h=>(lits_step h (by omega)).mono fun e w'' ⟨v,he,hv,h'⟩=>⟨v,he,hv,h'⟩) (fun v w' h=>BW.of (lits_block h 3 hb3)) (fun v2 hv2=> ?_);obtain⟨l2,x2,m2,c2,rfl⟩:=hv2;simp only[Act.put,List.setIfInBounds_toArray,List.set_cons_succ,List.set_cons_zero];refine stage_quiet 1 (by kernel_rfl) ?_;simp only[List.take_succ_cons,List.take_zero,List.drop_succ_cons,List.drop_zero]
 repeat (go_big_quiet_step (fail))
 refine wpQuiet_nil ?_;refine stage_call_any 8 #[.pointer (some ⟨tl,0,none⟩)] (fun v=>∃l x m c,v=.agg #[.int .i64 l,.slice x m c]) (fun v w'=>Lits [] W cs tl A B 3 ([v,.agg #[.int .i64 l2,.slice x2 m2 c2],.agg #[.int .i64 l1,.slice x1 m1 c1]]) w') rfl Tryz.call8 rfl rfl ⟨_,0,none,0,0,rfl⟩ (fun w' h=>(lits_step h (by omega)).mono fun e w'' ⟨v,he,hv,h'⟩=>⟨v,he,hv,h'⟩) (fun v w' h=>BW.of (lits_block h 3 hb3)) (fun v3 hv3=> ?_);obtain⟨l3,x3,m3,c3,rfl⟩:=hv3;simp only[Act.put,List.setIfInBounds_toArray,List.set_cons_succ,List.set_cons_zero];refine stage_alloc (fun s=>.slice (some ⟨s,0,none⟩) 4 4) (.cells #[.int .i64 l1,.slice x1 m1 c1,.int .i64 rl,.slice ra rm rc,.int .i64 l2,.slice x2 m2 c2,.int .i64 l3,.slice x3 m3 c3] 25 (0,0)) (fun sb w'=>∃t1 t2 t3:LitT,(.agg #[.int .i64 l1,.slice x1 m1 c1]=litV t1∧ .agg #[.int .i64 l2,.slice x2 m2 c2]=litV t2∧ .agg #[.int .i64 l3,.slice x3 m3 c3]=litV t3)∧(Ty.Made t1.1 t1.2.2.2∧Ty.Made t2.1 t2.2.2.2∧Ty.Made t3.1 t3.2.2.2)∧Scene [] W (blockC sb (.cells #[.int .i64 l1,.slice x1 m1 c1,.int .i64 rl,.slice ra rm rc,.int .i64 l2,.slice x2 m2 c2,.int .i64 l3,.slice x3 m3 c3] 25 (0,0))::Ty.tapeC tl (12*3) A B::litRow t3::litRow t2::litRow t1::cs) w') (by intro s s' h;simpa using h) rfl rfl (fun w' hw=> ?_) (fun w' hw=> ?_) (fun s w' h=> ?_) (fun sb=> ?_)
 ·kernel_rfl
 ·obtain⟨t1,t2,t3,h1,h2,h3⟩:=lits_three hw;exact⟨t1,t2,t3,h1,h2,h3.alloc _⟩
 ·obtain⟨t1,t2,t3,_,_,h3⟩:=h;exact BW.of (h3.block 8 hb3)
 simp only[Act.put,List.setIfInBounds_toArray,List.set_cons_succ,List.set_cons_zero];refine stage_quiet 2 (by kernel_rfl) ?_;simp only[List.take_succ_cons,List.take_zero,List.drop_succ_cons,List.drop_zero]
 repeat (go_big_quiet_step (fail))
 refine wpQuiet_nil ?_;refine stage_nil fun w6 hw6=> ?_
 obtain⟨t1,t2,t3,⟨e1,e2,e3⟩,⟨h1,h2,h3⟩,hS8⟩:=hw6;simp only[litV]at e1 e2 e3;cases e1;cases e2;cases e3;clear k4 hS7;go_wp2_with fail;subst hcs;have hS9:=Lib.hid ((hS8.out 5 rfl).out 6 rfl);clear hS8 hS6 hb3;obtain⟨cs,hsb,hfour,hS9⟩:∃cs,cs[0]? =some (blockC sb (.cells #[.int .i64 t1.1,.slice (some ⟨t1.2.1,0,none⟩) t1.2.2.2.length t1.2.2.1,.int .i64 rl,.slice ra rm rc,.int .i64 t2.1,.slice (some ⟨t2.2.1,0,none⟩) t2.2.2.2.length t2.2.2.1,.int .i64 t3.1,.slice (some ⟨t3.2.1,0,none⟩) t3.2.2.2.length t3.2.2.1] 25 (0,0)))∧FourIn W cs [.int .i64 t1.1,.slice (some ⟨t1.2.1,0,none⟩) t1.2.2.2.length t1.2.2.1,.int .i64 rl,.slice ra rm rc,.int .i64 t2.1,.slice (some ⟨t2.2.1,0,none⟩) t2.2.2.2.length t2.2.2.1,.int .i64 t3.1,.slice (some ⟨t3.2.1,0,none⟩) t3.2.2.2.length t3.2.2.1]∧Scene [] W (hpA a c (newS c)::Ty.regC 42 mb []::cs) w6:=⟨_,rfl,four_in rfl rfl rfl h1 h2 h3 hFH.out ⟨r1,r2⟩,hS9.out⟩;generalize hxs:([.int .i64 t1.1,.slice (some ⟨t1.2.1,0,none⟩) t1.2.2.2.length t1.2.2.1,.int .i64 rl,.slice ra rm rc,.int .i64 t2.1,.slice (some ⟨t2.2.1,0,none⟩) t2.2.2.2.length t2.2.2.1,.int .i64 t3.1,.slice (some ⟨t3.2.1,0,none⟩) t3.2.2.2.length t3.2.2.1]:List Value)=xl at hfour;have hsb:cs[0]? =some (blockC sb (.cells xl.toArray 25 (0,0))):=by rw[hsb, ←hxs]
 clear hxs;have hS9:=Lib.hid hS9;have hfour:=Lib.hid hfour;go_loopw [53] (fun i wr=>∃(k:Nat) (s:HS),k≤4∧i=.int .i64 k∧s.R.length≤k∧HInv c 0 s∧s.st 1=0∧Scene [] W (hpA a c s::Ty.regC 42 mb s.R::cs) wr) (fun i _=>4-(intOf i).toNat)
 case atStart=>exact⟨0,newS c,by omega,rfl,by simp[newS],hI0,rfl,hS9.out⟩
 case round=>
  obtain⟨k,s,hk,rfl,hR,hI,hst,hS⟩:=hrel;clear hS9;have hS:=Lib.hid hS;have hRH:=Lib.hid hR;have hIH:=Lib.hid hI;have hsH:=Lib.hid hst;clear hR hI hst;by_cases hk4:k<4
  ·obtain⟨len,xa,xm,xc,fs,e1,e2,hb,hT⟩:=hfour.out k hk4;have hT:=Lib.hid hT;have g0:wr.cell? ⟨sb,k*2,none⟩=some (.int .i64 len):=by rw[cells_of (hS.out.block 2 hsb)];simpa using e1
   have g1:wr.cell? ⟨sb,k*2+1,none⟩=some (.slice xa xm xc):=by rw[cells_of (hS.out.block 2 hsb)];simpa using e2
   have hS1:=hS.out.alloc (.cells #[.int .i64 len,.slice xa xm xc] 25);have c12:=cells_of (hS1.block 0 rfl);have hS1:=Lib.hid hS1.swap;clear e1 e2 hS;go_wp2_with fail;refine(hdefine_ok hS1.out len _ fs (hT.out [_,_,_] _ hS1.out) hb.1 hb.2).mono ?_;rintro e w1 ⟨rfl,hS2⟩;have c12:=cells_of (hS2.block 1 rfl);have hS2:=Lib.hid hS2;clear hS1 g0 g1;go_wp2_with fail;refine(Ty.sc_rregister 2 hS2.out rfl (hT.out [_,_,_] _ hS2.out) hb.1 hb.2).mono ?_;rintro e w2 ⟨rfl,hS3⟩;have hS3:=Lib.hid (hS3.erase 1);unfold Ty.regV;generalize hrt:Ty.regTag s.R (len,fs)=rt;generalize hre:Ty.regErr s.R (len,fs)=re;have z1:(rt==rt)=true:=by simp
   have z2:(re==re)=true:=by simp
   clear hS2 c12 hrt hre;go_wp2_with fail;go_roundw
   case rel=>exact⟨k+1,defS s (len,fs),by omega,by go_num,Nat.le_trans (regN_len s.R (len,fs)) (by have:=hRH.out;omega),inv_def hIH.out _,hsH.out,hS3.out⟩
   case measure=>simp[intOf];omega
  ·obtain rfl:k=4:=by omega
   clear hfour;obtain⟨hs1,hs2,hs3⟩:=startD_first (p:=1) (by omega) (by omega) hsH.out;have hI1:=inv_start hIH.out 1;have hst:=Lib.hid fun w' (h:Scene [] W (hpA a c s::Ty.regC 42 mb s.R::cs) w')=>start_op hIH.out (by omega) (p:=1) h
   obtain⟨s1,hs⟩:∃s1,startD s 1=(0,s1):=⟨(startD s 1).2,Prod.ext hs1 rfl⟩;rw[hs]at hs2 hs3 hst hI1;simp only at hs2 hs3 hst hI1;go_wp2_with fail;refine(hst.out _ hS.out).mono ?_;rintro e w1 ⟨rfl,hS1⟩;rw[←hs3]at hS1;obtain⟨sv,L,hLR,hok,h255,hS2⟩:=reg_open hS1.swap;have hS2:=hS2.out 3 rfl;have hL255:L.length≤255:=by rw[←hLR,List.length_map]at h255;exact h255
   simp only[Ty.regP,List.cons_append,List.nil_append,List.eraseIdx_cons_succ,List.eraseIdx_cons_zero]at hS2;have hS2:=Lib.hid hS2;clear hst hS1 hs3 hS hs hs1;generalize hsR:s1.R=R at*;have hsRH:=Lib.hid hsR;have h1H:=Lib.hid hs2;have hI1:=Lib.hid hI1;clear hsR hs2 hIH hsH hRH;go_wp2_with fail;go_loopw [17] (fun i wr=>∃(j:Nat) (s2:HS),j≤L.length∧i=.int .i64 ((j:Int)+1)∧HInv c (1+2*j) s2∧s2.R=R∧s2.st 1=1∧Scene [] W (hpA a c s2::blockC mb (.cells #[sv] 42 (0,0))::rowC sv L.length 25 2 (flat Ty.tcell L)::Ty.fieldsC L::cs) wr) (fun i _=>L.length+1-(intOf i).toNat)
   case atStart=>exact⟨0,s1,by omega,rfl,hI1.out,hsRH.out,h1H.out,hS2.out⟩
   case round=>
    obtain⟨j,s2,hj,rfl,hI,hR,hst,hS⟩:=hrel;have hS:=Lib.hid hS;have hIH:=Lib.hid hI;have hRH:=Lib.hid hR;have hsH:=Lib.hid hst;clear hI hR hst;have hrow:=hS.out.row 2 rfl;have hln:=fun ty w=>row_len (ty:=ty) Tryz.underlying40 hrow w
    have cm:=cells_of (hS.out.block 1 rfl);by_cases hj1:j<L.length
    ·obtain⟨g,cap,rfl,hg,r0,r1⟩:=Ty.ty_cells hrow rfl hj1;have hdj:decide ((j:Int)+1≤(L.length:Int))=true:=by simp;omega
     have hop:=Lib.hid (alloc_op hcO hIH.out (by omega) (p:=1) (tag:=(j:Int)+1) (d:=0) (by omega) (by omega) (allocH_range hcO hIH.out hsH.out _ _) hS.out);have hI3:=Lib.hid (inv_opAlloc hcO hIH.out 1 ((j:Int)+1) 0);have hsz:=Lib.hid (fun he X hX q w' hin=>obs_sized (p:=1) (tag:=(j:Int)+1) (d:=0) hcO hIH.out he (X:=X) hX (q:=q) (W:=w') hin);have hR3:=Lib.hid ((opAlloc_R (c:=c) (s:=s2) 1 ((j:Int)+1) 0).trans hRH.out);have hst3:=Lib.hid ((congrFun (opAlloc_st (c:=c) (s:=s2) 1 ((j:Int)+1) 0) 1).trans hsH.out);have hRj:R[j]? =some L[j].1:=by rw[←hLR,List.getElem?_map,List.getElem?_eq_getElem hj1];rfl
     have hszN:sizeTag s2 ((j:Int)+1)=Ty.sizeT L[j].1.1 L[j].1.2:=by
      obtain⟨hl,he⟩:=List.getElem?_eq_some_iff.1 hRj;unfold sizeTag tyTag;rw[hRH.out,size_reg hl,he]
     have hok1:Ty.TyOk L[j].1:=hok _ (List.mem_of_getElem? hRj);have hokH:=Lib.hid hok1;have hszH:=Lib.hid hszN;have hb1:=hok1.bounds;clear hrow hRj hok1 hszN;go_wp2_with fail;refine hop.out.mono ?_;rintro e w2 ⟨rfl,hS3⟩;clear hop hS r0 r1 hln cm;generalize(opAlloc c s2 1 ((j:Int)+1) 0).1=ae at*;generalize opAllocH c s2 1 ((j:Int)+1) 0=ah at*;generalize(opAlloc c s2 1 ((j:Int)+1) 0).2=s3 at*;have hrow:=hS3.row 2 rfl;have cm:=cells_of (hS3.block 1 rfl);obtain⟨g2,cap2,hgg,hg2,r0,r1⟩:=Ty.ty_cells hrow rfl hj1;cases hgg;have hFj:=Ty.scene_fields 3 hS3 rfl L[j] (List.getElem_mem hj1);obtain⟨fa,fm,fc,hfv⟩:=Ty.FieldsAt.slice hFj;rw[hfv]at r1 hFj;have hS3:=Lib.hid hS3;have hsizeF:=Lib.hid (Ty.rsizeF_ok L[j].1.1 _ L[j].1.2 w2 hFj (by omega) (by omega));have hj0:((j:Int)+1-1).toNat=j:=by omega
     have hj2:(j:Int)+1-1=j:=by omega
     clear hrow hFj hfv;go_wp2_with fail;refine hsizeF.out.mono ?_;rintro e w3 ⟨rfl,hm3⟩;have hS4:=Lib.hid (hS3.out.then hm3);have he0:=hokH.out;unfold Ty.TyOk at he0;unfold Ty.sizeV;rw[he0,if_pos rfl, ←hszH.out];generalize hzz:sizeTag s2 ((j:Int)+1)=z at*;clear hsizeF hS3 hm3 r0 r1 cm he0 hzz;go_wp2_with fail;obtain⟨fo,hH,_⟩:=hS4.out.part 0 rfl;refine(lawobjs_ok hcO hI3.out (by omega) hH).mono ?_;rintro e w4 ⟨X,v,rfl,hX,hrowX,hinX,hm4⟩;have hS5:=Lib.hid (hS4.out.then hm4);have hsay:ae=0→∀x∈X,∃ba bl bc,x.2.1=.slice ba bl bc∧(x.1.2.h=ah→(bl:Int)=z):=fun he=>hsz.out he X hX _ w4 hinX
     have hsl:∀x∈X,∃ba bl bc,x.2.1=.slice ba bl bc:=fun x hx=>row_form (hinX x hx).1
     have hsl2:∀x∈X,∃ba bl bc,x.2.2=.slice ba bl bc:=fun x hx=>row_form (hinX x hx).2
     have hXl:X.length≤4096:=by
      have g1:=congrArg List.length hX;have g2:=Tb.liveP_len s3.T c.n;have g3:=hcO.n;rw[List.length_map]at g1;omega
     have hsayH:=Lib.hid hsay;have hslH:=Lib.hid hsl;have hslH2:=Lib.hid hsl2;have hrowXH:=Lib.hid hrowX;have hlnX:=fun ty w=>row_len (ty:=ty) Tryz.underlying53 hrowX w
     clear hsay hsl hsl2 hinX hrowX hX hH hm4 hS4 hsz;go_wp2_with fail;go_loopw [111] (fun i wr=>∃m:Nat,m≤X.length∧i=.int .i64 m∧Mod [] w4 wr) (fun i _=>X.length-(intOf i).toNat)
     case atStart=>exact⟨0,by omega,rfl,Mod.refl _ _⟩
     case round=>
      obtain⟨m,hm,rfl,hmm⟩:=hrel;by_cases hm1:m<X.length
      ·obtain⟨ba,bl,bc,hbv⟩:=hslH.out X[m] (List.getElem_mem hm1);obtain⟨wa,wl,wc,hwv⟩:=hslH2.out X[m] (List.getElem_mem hm1);have hrX:=row_mod hrowXH.out hmm (by simp);obtain⟨gx,capx,hvx,hgx,hcx⟩:=obs_cells hrX hm1;cases hvx;have hsy:ae=0→X[m].1.2.h=ah→(bl:Int)=z:=fun he hh=>by
        obtain⟨ba',bl',bc',e1,e2⟩:=hsayH.out he X[m] (List.getElem_mem hm1);rw[hbv]at e1;cases e1;exact e2 hh
       have hfx:=hrX.frozenAt;have q0:=hcx 0 (by omega);have q1:=hcx 1 (by omega);have q2:=hcx 2 (by omega);have q3:=hcx 3 (by omega);have q4:=hcx 4 (by omega);have q5:=hcx 5 (by omega);have hmmH:=Lib.hid hmm;clear hcx hrX hmm;generalize X[m]=x at*;obtain⟨⟨ps,eh,eo,et,ef,el⟩,bv,wv⟩:=x;simp only[obCell,Nat.add_zero,List.getElem?_cons_succ,List.getElem?_cons_zero]at hbv hwv hsy q0 q1 q2 q3 q4 q5;subst hbv hwv;have hsyH:=Lib.hid hsy;clear hsy;by_cases he:ae=0
       ·have z0:(ae==0)=true:=by simp[he]
        by_cases hh:eh=ah
        ·have z1:(eh==ah)=true:=by simp[hh]
         have z2:((bl:Int)==z)=true:=by simp[hsyH.out he hh]
         clear he hh;go_wp2_with fail;go_roundw
         case rel=>exact⟨m+1,by omega,by go_num,hmmH.out.alloc _⟩
         case measure=>simp[intOf];omega
        ·have z1:(eh==ah)=false:=by simp[hh]
         clear he hh;go_wp2_with fail;go_roundw
         case rel=>exact⟨m+1,by omega,by go_num,hmmH.out.alloc _⟩
         case measure=>simp[intOf];omega
       ·have z0:(ae==0)=false:=by simp[he]
        clear he;go_wp2_with fail;go_roundw
        case rel=>exact⟨m+1,by omega,by go_num,hmmH.out.alloc _⟩
        case measure=>simp[intOf];omega
      ·obtain rfl:m=X.length:=by omega
       go_wp2_with fail;go_roundw
       case rel=>exact⟨j+1,s3,by omega,by simp,hI3.out,hR3.out,hst3.out,hS5.out.then hmm⟩
       case measure=>simp[intOf];omega
    ·have hdj:decide ((j:Int)+1≤(L.length:Int))=false:=by simp;omega
     obtain rfl:j=L.length:=by omega
     clear hrow;go_wp2_with fail;refine(awake_ok _).mono ?_;rintro e w2 ⟨rfl,hm2⟩;have hm3:=Lib.hid (hS.out.mod.nil_then hm2);clear hS cm hln hm2;go_wp2_with fail;go_ret;exact⟨rfl,hm3.out⟩
end Go.Proofs.YteidpgdfocjdbaaGreat
