/- Joined contracts. No conditions. -/
import Derived.Test.YtapbeogoojejmaaGreatCS
import Derived.Test.YtapbeogoojejmaaGreatC40
import Derived.Test.YtapbeogoojejmaaGreatC41
set_option maxHeartbeats 4000000
set_option maxRecDepth 20000
namespace Go.Proofs.YtapbeogoojejmaaGreat
open Go Go.RowKit Go.Stg
theorem config_walk (f:Cf) (hf:CfR f) (v:Value) (xs:List Int) (what n:Int) (h0:0≤what) (h1:what≤255) (hn0: -9223372036854775808≤n) (hn1:n≤9223372036854775807) (W:World) (hx:Ty.NumsAt W v xs):
  Calls Tryz.prog 4 #[.agg (cfA f),v,.int .u8 what,.int .i64 n] W fun e w'=>e=.returned (.bool true)∧Mod [] W w':=by
 obtain⟨rn,rsize,rfirst,rcap,rb,ro,rr,rframes,rstack⟩:=f;unfold cfA;simp only;have hxH:=Lib.hid hx;have hS:=Lib.hid ((Scene.empty W).alloc (.cells #[.int .i64 rn,.int .i64 rsize,.int .u32 rfirst,.int .i64 rcap,.int .i64 rb,.int .i64 ro,.int .i64 rr,.int .i64 rframes,.int .i64 rstack] 81));have hfH:=Lib.hid hf;clear hx hf;go_enter Tryz.func4,Tryz.ntmps4;go_wp2_with fail;refine(Ty.sc_of hS.out v xs 12 (by omega) (hxH.out.mod hS.out.mod (by simp))).mono ?_;rintro e w1 ⟨tb,A,B,rfl,hS1⟩;have hS1:=Lib.hid hS1;clear hS;go_wp2_with fail;refine(sc_config hS1.out (by omega)).mono ?_;rintro e w2 ⟨c,rfl,hcm,hS2⟩;have hcmH:=Lib.hid hcm;have hS2:=Lib.hid hS2;clear hcm hS1;obtain⟨cn,csize,cfirst,ccap,cb,co,cr,cframes,cstack⟩:=c;unfold cfA;simp only;have hS3:=hS2.out.alloc (.cells #[.int .i64 cn,.int .i64 csize,.int .u32 cfirst,.int .i64 ccap,.int .i64 cb,.int .i64 co,.int .i64 cr,.int .i64 cframes,.int .i64 cstack] 81);have hS3:=Lib.hid hS3;generalize hW3:w2.alloc (.cells #[.int .i64 cn,.int .i64 csize,.int .u32 cfirst,.int .i64 ccap,.int .i64 cb,.int .i64 co,.int .i64 cr,.int .i64 cframes,.int .i64 cstack] 81)=W3 at*;have hmr:0≤what%12∧what%12<12:=by omega
 have c0:=cells_of (hS3.out.block 0 rfl);have f0:=frozen_of (hS3.out.block 0 rfl);by_cases m0:what%12=0
 ·have e0:(what%12==0)=true:=by simp[m0]
  clear m0;have hS4:=Lib.hid (hS3.out.blockSet 0 rfl 0 (.int .i64 (wrap64 (4096+n.tmod 3))));have hc4:CfR ⟨(wrap64 (4096+n.tmod 3)),csize,cfirst,ccap,cb,co,cr,cframes,cstack⟩:=by unfold CfR;have:=hcmH.out;unfold CfMade at this;simp only at this⊢;omega
  have c1:=cells_of (hS4.out.block 0 rfl);have c2:=cells_of (hS4.out.block 2 rfl);go_wp2_with fail;have hS5:=(hS4.out.alloc (.cells #[.int .i64 rn,.int .i64 rsize,.int .u32 rfirst,.int .i64 rcap,.int .i64 rb,.int .i64 ro,.int .i64 rr,.int .i64 rframes,.int .i64 rstack,.int .i64 (wrap64 (4096+n.tmod 3)),.int .i64 csize,.int .u32 cfirst,.int .i64 ccap,.int .i64 cb,.int .i64 co,.int .i64 cr,.int .i64 cframes,.int .i64 cstack] 81));rw[show(W3.setCell ⟨w2.heap.size,0,none⟩ (.int .i64 (wrap64 (4096+n.tmod 3)))).heap.size=W3.heap.size by simp]at hS5;have hS5:=Lib.hid hS5;have hrow:=Lib.hid (hS5.out.block 0 rfl);have hmW:=Lib.hid hS5.out.mod;clear c0 f0 c1 c2 hS4 hS3 hS2;generalize(W3.setCell ⟨w2.heap.size,0,none⟩ (.int .i64 (wrap64 (4096+n.tmod 3)))).alloc (.cells #[.int .i64 rn,.int .i64 rsize,.int .u32 rfirst,.int .i64 rcap,.int .i64 rb,.int .i64 ro,.int .i64 rr,.int .i64 rframes,.int .i64 rstack,.int .i64 (wrap64 (4096+n.tmod 3)),.int .i64 csize,.int .u32 cfirst,.int .i64 ccap,.int .i64 cb,.int .i64 co,.int .i64 cr,.int .i64 cframes,.int .i64 cstack] 81)=W5 at*;generalize W3.heap.size=bR at*;have hfs:=Lib.hid (show∀k:Nat,k<2→∃f:Cf,CfR f∧∀w',Mod [] W5 w'→w'.cell? ⟨bR,k*9,none⟩=some (.int .i64 f.n)∧w'.cell? ⟨bR,k*9+1,none⟩=some (.int .i64 f.size)∧w'.cell? ⟨bR,k*9+2,none⟩=some (.int .u32 f.first)∧w'.cell? ⟨bR,k*9+3,none⟩=some (.int .i64 f.cap)∧w'.cell? ⟨bR,k*9+4,none⟩=some (.int .i64 f.b)∧w'.cell? ⟨bR,k*9+5,none⟩=some (.int .i64 f.o)∧w'.cell? ⟨bR,k*9+6,none⟩=some (.int .i64 f.r)∧w'.cell? ⟨bR,k*9+7,none⟩=some (.int .i64 f.frames)∧w'.cell? ⟨bR,k*9+8,none⟩=some (.int .i64 f.stack)from fun k hk=>by
   have hc:=cells_of hrow.out;by_cases h:k=0
   ·subst h;refine⟨_,hfH.out,fun w' hm=> ?_⟩;have hc:=cells_of (hm.at hrow.out (by simp));simp[hc]
   ·obtain rfl:k=1:=by omega
    refine⟨⟨(wrap64 (4096+n.tmod 3)),csize,cfirst,ccap,cb,co,cr,cframes,cstack⟩,hc4,fun w' hm=> ?_⟩;have hc:=cells_of (hm.at hrow.out (by simp));simp[hc])
  clear hS5 hrow hc4
  try clear e0
  try clear e1
  try clear e2
  try clear e3
  try clear e4
  try clear e5
  try clear e6
  try clear e7
  try clear e8
  try clear e9
  go_loopw [71] (fun i wr=>∃k:Nat,k≤2∧i=.int .i64 k∧Mod [] W5 wr) (fun i _=>2-(intOf i).toNat)
  case atStart=>exact⟨0,by omega,rfl,Mod.refl _ _⟩
  case round=>
   obtain⟨k,hk,rfl,hm⟩:=hrel;have hmH:=Lib.hid hm;by_cases hlt:k<2
   ·obtain⟨⟨fn,fsize,ffirst,fcap,fb,fo,fr,fframes,fstack⟩,hfR,hcl⟩:=hfs.out k hlt;obtain⟨q0,q1,q2,q3,q4,q5,q6,q7,q8⟩:=hcl wr hm;simp only at q0 q1 q2 q3 q4 q5 q6 q7 q8;have hX:=Lib.hid ((Scene.empty wr).alloc (.cells #[.int .i64 fn,.int .i64 fsize,.int .u32 ffirst,.int .i64 fcap,.int .i64 fb,.int .i64 fo,.int .i64 fr,.int .i64 fframes,.int .i64 fstack] 81));have hfRH:=Lib.hid hfR;clear hm hcl hfR;by_cases hok:cfOk ⟨fn,fsize,ffirst,fcap,fb,fo,fr,fframes,fstack⟩
    ·have hnew:=Lib.hid (hnew_ok hX.out ⟨fn,fsize,ffirst,fcap,fb,fo,fr,fframes,fstack⟩ hok hfRH.out.1 hfRH.out.2);have hch:=Lib.hid fun w'=>check_ok ⟨fn,fsize,ffirst,fcap,fb,fo,fr,fframes,fstack⟩ w'
     have hrc:=Lib.hid fun w'=>rcheck_ok ⟨fn,fsize,ffirst,fcap,fb,fo,fr,fframes,fstack⟩ w'
     rw[cfE_ok hok]at hch hrc;unfold cfA at hnew hch hrc;simp only at hnew hch hrc;clear hok;go_wp2_with fail;refine hnew.out.mono ?_;rintro e w6 ⟨a,rfl,hS6⟩;have hm6:=Lib.hid (hmH.out.nil_then hS6.mod);have c6:=cells_of (hS6.block 1 rfl);have k1:=GW.cells (S:=[]) (hS6.block 1 rfl) (by simp);clear hnew hS6 q0 q1 q2 q3 q4 q5 q6 q7 q8;clear hX c6;go_wp2_with fail;refine wp_region_pure (by kernel_rfl) (by kernel_rfl) ?_;refine stage_quiet 1 (by kernel_rfl) ?_;simp only[tA,tB,tC,tD];(repeat go_big_quiet_step (fail));refine wpQuiet_nil ?_;refine stage_pure 34 #[.agg #[.int .i64 fn,.int .i64 fsize,.int .u32 ffirst,.int .i64 fcap,.int .i64 fb,.int .i64 fo,.int .i64 fr,.int .i64 fframes,.int .i64 fstack]] (.int .i64 0) rfl Tryz.call34 rfl rfl (fun w' _=>hch.out w') ?_;simp only[Act.put,sA,sB,sC];refine stage_quiet 1 (by kernel_rfl) ?_;simp only[tA,tB,tC,tD];(repeat go_big_quiet_step (fail));refine wpQuiet_nil ?_;refine stage_pure 35 #[.agg #[.int .i64 fn,.int .i64 fsize,.int .u32 ffirst,.int .i64 fcap,.int .i64 fb,.int .i64 fo,.int .i64 fr,.int .i64 fframes,.int .i64 fstack]] (.int .i64 0) rfl Tryz.call35 rfl rfl (fun w' _=>hrc.out w') ?_;simp only[Act.put,sA,sB,sC];refine stage_quiet 4 (by kernel_rfl) ?_;simp only[tA,tB,tC,tD];(repeat go_big_quiet_step (fail));refine wpQuiet_nil ?_;refine stage_pure 35 #[.agg #[.int .i64 fn,.int .i64 fsize,.int .u32 ffirst,.int .i64 fcap,.int .i64 fb,.int .i64 fo,.int .i64 fr,.int .i64 fframes,.int .i64 fstack]] (.int .i64 0) rfl Tryz.call35 rfl rfl (fun w' _=>hrc.out w') ?_;simp only[Act.put,sA,sB,sC];refine stage_quiet 9 (by kernel_rfl) ?_;simp only[tA,tB,tC,tD];(repeat go_big_quiet_step (fail));refine wpQuiet_nil ?_;refine stage_nil fun w7 hm7=> ?_
     have hm8:=Lib.hid (hm6.out.nil_then hm7);clear k1 hch hrc hm7 hm6;go_wp2_with fail;go_roundw
     case rel=>exact⟨k+1,by omega,by go_num,hm8.out⟩
     case measure=>simp[intOf];omega
    ·have hnew:=Lib.hid (hnew_bad ⟨fn,fsize,ffirst,fcap,fb,fo,fr,fframes,fstack⟩ hok);have hch:=Lib.hid fun w'=>check_ok ⟨fn,fsize,ffirst,fcap,fb,fo,fr,fframes,fstack⟩ w'
     have hrc:=Lib.hid fun w'=>rcheck_ok ⟨fn,fsize,ffirst,fcap,fb,fo,fr,fframes,fstack⟩ w'
     rw[cfE_bad hok]at hch hrc;unfold cfA at hnew hch hrc;simp only at hnew hch hrc;clear hok;go_wp2_with fail;refine(hnew.out _).mono ?_;rintro e w6 ⟨rfl,hm'⟩;have hS6:=hX.out.then hm';have hm6:=Lib.hid (hmH.out.nil_then hS6.mod);have c6:=cells_of (hS6.block 0 rfl);have k1:=GW.cells (S:=[]) (hS6.block 0 rfl) (by simp);clear hnew hS6 hm' q0 q1 q2 q3 q4 q5 q6 q7 q8;clear hX c6;go_wp2_with fail;refine wp_region_pure (by kernel_rfl) (by kernel_rfl) ?_;refine stage_quiet 1 (by kernel_rfl) ?_;simp only[tA,tB,tC,tD];(repeat go_big_quiet_step (fail));refine wpQuiet_nil ?_;refine stage_pure 34 #[.agg #[.int .i64 fn,.int .i64 fsize,.int .u32 ffirst,.int .i64 fcap,.int .i64 fb,.int .i64 fo,.int .i64 fr,.int .i64 fframes,.int .i64 fstack]] (.int .i64 1) rfl Tryz.call34 rfl rfl (fun w' _=>hch.out w') ?_;simp only[Act.put,sA,sB,sC];refine stage_quiet 1 (by kernel_rfl) ?_;simp only[tA,tB,tC,tD];(repeat go_big_quiet_step (fail));refine wpQuiet_nil ?_;refine stage_pure 35 #[.agg #[.int .i64 fn,.int .i64 fsize,.int .u32 ffirst,.int .i64 fcap,.int .i64 fb,.int .i64 fo,.int .i64 fr,.int .i64 fframes,.int .i64 fstack]] (.int .i64 1) rfl Tryz.call35 rfl rfl (fun w' _=>hrc.out w') ?_;simp only[Act.put,sA,sB,sC];refine stage_quiet 4 (by kernel_rfl) ?_;simp only[tA,tB,tC,tD];(repeat go_big_quiet_step (fail));refine wpQuiet_nil ?_;refine stage_pure 35 #[.agg #[.int .i64 fn,.int .i64 fsize,.int .u32 ffirst,.int .i64 fcap,.int .i64 fb,.int .i64 fo,.int .i64 fr,.int .i64 fframes,.int .i64 fstack]] (.int .i64 1) rfl Tryz.call35 rfl rfl (fun w' _=>hrc.out w') ?_;simp only[Act.put,sA,sB,sC];refine stage_quiet 9 (by kernel_rfl) ?_;simp only[tA,tB,tC,tD];(repeat go_big_quiet_step (fail));refine wpQuiet_nil ?_;refine stage_nil fun w7 hm7=> ?_
     have hm8:=Lib.hid (hm6.out.nil_then hm7);clear k1 hch hrc hm7 hm6;go_wp2_with fail;go_roundw
     case rel=>exact⟨k+1,by omega,by go_num,hm8.out⟩
     case measure=>simp[intOf];omega
   ·obtain rfl:k=2:=by omega
    clear hm hfs;go_wp2_with fail;refine(awake_ok _).mono ?_;rintro e w7 ⟨rfl,hm7⟩;have hm8:=Lib.hid (hmW.out.nil_then (hmH.out.nil_then hm7));clear hm7;go_wp2_with fail;go_ret;exact⟨rfl,hm8.out⟩
 have e0:(what%12==0)=false:=by simp[m0]
 clear m0;by_cases m1:what%12=1
 ·have e1:(what%12==1)=true:=by simp[m1]
  clear m1;have hS4:=Lib.hid (hS3.out.blockSet 0 rfl 1 (.int .i64 (wrap64 (1048576+n.tmod 3))));have hc4:CfR ⟨cn,(wrap64 (1048576+n.tmod 3)),cfirst,ccap,cb,co,cr,cframes,cstack⟩:=by unfold CfR;have:=hcmH.out;unfold CfMade at this;simp only at this⊢;omega
  have c1:=cells_of (hS4.out.block 0 rfl);have c2:=cells_of (hS4.out.block 2 rfl);go_wp2_with fail;have hS5:=(hS4.out.alloc (.cells #[.int .i64 rn,.int .i64 rsize,.int .u32 rfirst,.int .i64 rcap,.int .i64 rb,.int .i64 ro,.int .i64 rr,.int .i64 rframes,.int .i64 rstack,.int .i64 cn,.int .i64 (wrap64 (1048576+n.tmod 3)),.int .u32 cfirst,.int .i64 ccap,.int .i64 cb,.int .i64 co,.int .i64 cr,.int .i64 cframes,.int .i64 cstack] 81));rw[show(W3.setCell ⟨w2.heap.size,1,none⟩ (.int .i64 (wrap64 (1048576+n.tmod 3)))).heap.size=W3.heap.size by simp]at hS5;have hS5:=Lib.hid hS5;have hrow:=Lib.hid (hS5.out.block 0 rfl);have hmW:=Lib.hid hS5.out.mod;clear c0 f0 c1 c2 hS4 hS3 hS2;generalize(W3.setCell ⟨w2.heap.size,1,none⟩ (.int .i64 (wrap64 (1048576+n.tmod 3)))).alloc (.cells #[.int .i64 rn,.int .i64 rsize,.int .u32 rfirst,.int .i64 rcap,.int .i64 rb,.int .i64 ro,.int .i64 rr,.int .i64 rframes,.int .i64 rstack,.int .i64 cn,.int .i64 (wrap64 (1048576+n.tmod 3)),.int .u32 cfirst,.int .i64 ccap,.int .i64 cb,.int .i64 co,.int .i64 cr,.int .i64 cframes,.int .i64 cstack] 81)=W5 at*;generalize W3.heap.size=bR at*;have hfs:=Lib.hid (show∀k:Nat,k<2→∃f:Cf,CfR f∧∀w',Mod [] W5 w'→w'.cell? ⟨bR,k*9,none⟩=some (.int .i64 f.n)∧w'.cell? ⟨bR,k*9+1,none⟩=some (.int .i64 f.size)∧w'.cell? ⟨bR,k*9+2,none⟩=some (.int .u32 f.first)∧w'.cell? ⟨bR,k*9+3,none⟩=some (.int .i64 f.cap)∧w'.cell? ⟨bR,k*9+4,none⟩=some (.int .i64 f.b)∧w'.cell? ⟨bR,k*9+5,none⟩=some (.int .i64 f.o)∧w'.cell? ⟨bR,k*9+6,none⟩=some (.int .i64 f.r)∧w'.cell? ⟨bR,k*9+7,none⟩=some (.int .i64 f.frames)∧w'.cell? ⟨bR,k*9+8,none⟩=some (.int .i64 f.stack)from fun k hk=>by
   have hc:=cells_of hrow.out;by_cases h:k=0
   ·subst h;refine⟨_,hfH.out,fun w' hm=> ?_⟩;have hc:=cells_of (hm.at hrow.out (by simp));simp[hc]
   ·obtain rfl:k=1:=by omega
    refine⟨⟨cn,(wrap64 (1048576+n.tmod 3)),cfirst,ccap,cb,co,cr,cframes,cstack⟩,hc4,fun w' hm=> ?_⟩;have hc:=cells_of (hm.at hrow.out (by simp));simp[hc])
  clear hS5 hrow hc4
  try clear e0
  try clear e1
  try clear e2
  try clear e3
  try clear e4
  try clear e5
  try clear e6
  try clear e7
  try clear e8
  try clear e9
  go_loopw [71] (fun i wr=>∃k:Nat,k≤2∧i=.int .i64 k∧Mod [] W5 wr) (fun i _=>2-(intOf i).toNat)
  case atStart=>exact⟨0,by omega,rfl,Mod.refl _ _⟩
  case round=>
   obtain⟨k,hk,rfl,hm⟩:=hrel;have hmH:=Lib.hid hm;by_cases hlt:k<2
   ·obtain⟨⟨fn,fsize,ffirst,fcap,fb,fo,fr,fframes,fstack⟩,hfR,hcl⟩:=hfs.out k hlt;obtain⟨q0,q1,q2,q3,q4,q5,q6,q7,q8⟩:=hcl wr hm;simp only at q0 q1 q2 q3 q4 q5 q6 q7 q8;have hX:=Lib.hid ((Scene.empty wr).alloc (.cells #[.int .i64 fn,.int .i64 fsize,.int .u32 ffirst,.int .i64 fcap,.int .i64 fb,.int .i64 fo,.int .i64 fr,.int .i64 fframes,.int .i64 fstack] 81));have hfRH:=Lib.hid hfR;clear hm hcl hfR;by_cases hok:cfOk ⟨fn,fsize,ffirst,fcap,fb,fo,fr,fframes,fstack⟩
    ·have hnew:=Lib.hid (hnew_ok hX.out ⟨fn,fsize,ffirst,fcap,fb,fo,fr,fframes,fstack⟩ hok hfRH.out.1 hfRH.out.2);have hch:=Lib.hid fun w'=>check_ok ⟨fn,fsize,ffirst,fcap,fb,fo,fr,fframes,fstack⟩ w'
     have hrc:=Lib.hid fun w'=>rcheck_ok ⟨fn,fsize,ffirst,fcap,fb,fo,fr,fframes,fstack⟩ w'
     rw[cfE_ok hok]at hch hrc;unfold cfA at hnew hch hrc;simp only at hnew hch hrc;clear hok;go_wp2_with fail;refine hnew.out.mono ?_;rintro e w6 ⟨a,rfl,hS6⟩;have hm6:=Lib.hid (hmH.out.nil_then hS6.mod);have c6:=cells_of (hS6.block 1 rfl);have k1:=GW.cells (S:=[]) (hS6.block 1 rfl) (by simp);clear hnew hS6 q0 q1 q2 q3 q4 q5 q6 q7 q8;clear hX c6;go_wp2_with fail;refine wp_region_pure (by kernel_rfl) (by kernel_rfl) ?_;refine stage_quiet 1 (by kernel_rfl) ?_;simp only[tA,tB,tC,tD];(repeat go_big_quiet_step (fail));refine wpQuiet_nil ?_;refine stage_pure 34 #[.agg #[.int .i64 fn,.int .i64 fsize,.int .u32 ffirst,.int .i64 fcap,.int .i64 fb,.int .i64 fo,.int .i64 fr,.int .i64 fframes,.int .i64 fstack]] (.int .i64 0) rfl Tryz.call34 rfl rfl (fun w' _=>hch.out w') ?_;simp only[Act.put,sA,sB,sC];refine stage_quiet 1 (by kernel_rfl) ?_;simp only[tA,tB,tC,tD];(repeat go_big_quiet_step (fail));refine wpQuiet_nil ?_;refine stage_pure 35 #[.agg #[.int .i64 fn,.int .i64 fsize,.int .u32 ffirst,.int .i64 fcap,.int .i64 fb,.int .i64 fo,.int .i64 fr,.int .i64 fframes,.int .i64 fstack]] (.int .i64 0) rfl Tryz.call35 rfl rfl (fun w' _=>hrc.out w') ?_;simp only[Act.put,sA,sB,sC];refine stage_quiet 4 (by kernel_rfl) ?_;simp only[tA,tB,tC,tD];(repeat go_big_quiet_step (fail));refine wpQuiet_nil ?_;refine stage_pure 35 #[.agg #[.int .i64 fn,.int .i64 fsize,.int .u32 ffirst,.int .i64 fcap,.int .i64 fb,.int .i64 fo,.int .i64 fr,.int .i64 fframes,.int .i64 fstack]] (.int .i64 0) rfl Tryz.call35 rfl rfl (fun w' _=>hrc.out w') ?_;simp only[Act.put,sA,sB,sC];refine stage_quiet 9 (by kernel_rfl) ?_;simp only[tA,tB,tC,tD];(repeat go_big_quiet_step (fail));refine wpQuiet_nil ?_;refine stage_nil fun w7 hm7=> ?_
     have hm8:=Lib.hid (hm6.out.nil_then hm7);clear k1 hch hrc hm7 hm6;go_wp2_with fail;go_roundw
     case rel=>exact⟨k+1,by omega,by go_num,hm8.out⟩
     case measure=>simp[intOf];omega
    ·have hnew:=Lib.hid (hnew_bad ⟨fn,fsize,ffirst,fcap,fb,fo,fr,fframes,fstack⟩ hok);have hch:=Lib.hid fun w'=>check_ok ⟨fn,fsize,ffirst,fcap,fb,fo,fr,fframes,fstack⟩ w'
     have hrc:=Lib.hid fun w'=>rcheck_ok ⟨fn,fsize,ffirst,fcap,fb,fo,fr,fframes,fstack⟩ w'
     rw[cfE_bad hok]at hch hrc;unfold cfA at hnew hch hrc;simp only at hnew hch hrc;clear hok;go_wp2_with fail;refine(hnew.out _).mono ?_;rintro e w6 ⟨rfl,hm'⟩;have hS6:=hX.out.then hm';have hm6:=Lib.hid (hmH.out.nil_then hS6.mod);have c6:=cells_of (hS6.block 0 rfl);have k1:=GW.cells (S:=[]) (hS6.block 0 rfl) (by simp);clear hnew hS6 hm' q0 q1 q2 q3 q4 q5 q6 q7 q8;clear hX c6;go_wp2_with fail;refine wp_region_pure (by kernel_rfl) (by kernel_rfl) ?_;refine stage_quiet 1 (by kernel_rfl) ?_;simp only[tA,tB,tC,tD];(repeat go_big_quiet_step (fail));refine wpQuiet_nil ?_;refine stage_pure 34 #[.agg #[.int .i64 fn,.int .i64 fsize,.int .u32 ffirst,.int .i64 fcap,.int .i64 fb,.int .i64 fo,.int .i64 fr,.int .i64 fframes,.int .i64 fstack]] (.int .i64 1) rfl Tryz.call34 rfl rfl (fun w' _=>hch.out w') ?_;simp only[Act.put,sA,sB,sC];refine stage_quiet 1 (by kernel_rfl) ?_;simp only[tA,tB,tC,tD];(repeat go_big_quiet_step (fail));refine wpQuiet_nil ?_;refine stage_pure 35 #[.agg #[.int .i64 fn,.int .i64 fsize,.int .u32 ffirst,.int .i64 fcap,.int .i64 fb,.int .i64 fo,.int .i64 fr,.int .i64 fframes,.int .i64 fstack]] (.int .i64 1) rfl Tryz.call35 rfl rfl (fun w' _=>hrc.out w') ?_;simp only[Act.put,sA,sB,sC];refine stage_quiet 4 (by kernel_rfl) ?_;simp only[tA,tB,tC,tD];(repeat go_big_quiet_step (fail));refine wpQuiet_nil ?_;refine stage_pure 35 #[.agg #[.int .i64 fn,.int .i64 fsize,.int .u32 ffirst,.int .i64 fcap,.int .i64 fb,.int .i64 fo,.int .i64 fr,.int .i64 fframes,.int .i64 fstack]] (.int .i64 1) rfl Tryz.call35 rfl rfl (fun w' _=>hrc.out w') ?_;simp only[Act.put,sA,sB,sC];refine stage_quiet 9 (by kernel_rfl) ?_;simp only[tA,tB,tC,tD];(repeat go_big_quiet_step (fail));refine wpQuiet_nil ?_;refine stage_nil fun w7 hm7=> ?_
     have hm8:=Lib.hid (hm6.out.nil_then hm7);clear k1 hch hrc hm7 hm6;go_wp2_with fail;go_roundw
     case rel=>exact⟨k+1,by omega,by go_num,hm8.out⟩
     case measure=>simp[intOf];omega
   ·obtain rfl:k=2:=by omega
    clear hm hfs;go_wp2_with fail;refine(awake_ok _).mono ?_;rintro e w7 ⟨rfl,hm7⟩;have hm8:=Lib.hid (hmW.out.nil_then (hmH.out.nil_then hm7));clear hm7;go_wp2_with fail;go_ret;exact⟨rfl,hm8.out⟩
 have e1:(what%12==1)=false:=by simp[m1]
 clear m1;by_cases m2:what%12=2
 ·have e2:(what%12==2)=true:=by simp[m2]
  clear m2;have hS4:=Lib.hid (hS3.out.blockSet 0 rfl 2 (.int .u32 0));have hc4:CfR ⟨cn,csize,0,ccap,cb,co,cr,cframes,cstack⟩:=by unfold CfR;have:=hcmH.out;unfold CfMade at this;simp only at this⊢;omega
  have c1:=cells_of (hS4.out.block 0 rfl);have c2:=cells_of (hS4.out.block 2 rfl);go_wp2_with fail;have hS5:=(hS4.out.alloc (.cells #[.int .i64 rn,.int .i64 rsize,.int .u32 rfirst,.int .i64 rcap,.int .i64 rb,.int .i64 ro,.int .i64 rr,.int .i64 rframes,.int .i64 rstack,.int .i64 cn,.int .i64 csize,.int .u32 0,.int .i64 ccap,.int .i64 cb,.int .i64 co,.int .i64 cr,.int .i64 cframes,.int .i64 cstack] 81));rw[show(W3.setCell ⟨w2.heap.size,2,none⟩ (.int .u32 0)).heap.size=W3.heap.size by simp]at hS5;have hS5:=Lib.hid hS5;have hrow:=Lib.hid (hS5.out.block 0 rfl);have hmW:=Lib.hid hS5.out.mod;clear c0 f0 c1 c2 hS4 hS3 hS2;generalize(W3.setCell ⟨w2.heap.size,2,none⟩ (.int .u32 0)).alloc (.cells #[.int .i64 rn,.int .i64 rsize,.int .u32 rfirst,.int .i64 rcap,.int .i64 rb,.int .i64 ro,.int .i64 rr,.int .i64 rframes,.int .i64 rstack,.int .i64 cn,.int .i64 csize,.int .u32 0,.int .i64 ccap,.int .i64 cb,.int .i64 co,.int .i64 cr,.int .i64 cframes,.int .i64 cstack] 81)=W5 at*;generalize W3.heap.size=bR at*;have hfs:=Lib.hid (show∀k:Nat,k<2→∃f:Cf,CfR f∧∀w',Mod [] W5 w'→w'.cell? ⟨bR,k*9,none⟩=some (.int .i64 f.n)∧w'.cell? ⟨bR,k*9+1,none⟩=some (.int .i64 f.size)∧w'.cell? ⟨bR,k*9+2,none⟩=some (.int .u32 f.first)∧w'.cell? ⟨bR,k*9+3,none⟩=some (.int .i64 f.cap)∧w'.cell? ⟨bR,k*9+4,none⟩=some (.int .i64 f.b)∧w'.cell? ⟨bR,k*9+5,none⟩=some (.int .i64 f.o)∧w'.cell? ⟨bR,k*9+6,none⟩=some (.int .i64 f.r)∧w'.cell? ⟨bR,k*9+7,none⟩=some (.int .i64 f.frames)∧w'.cell? ⟨bR,k*9+8,none⟩=some (.int .i64 f.stack)from fun k hk=>by
   have hc:=cells_of hrow.out;by_cases h:k=0
   ·subst h;refine⟨_,hfH.out,fun w' hm=> ?_⟩;have hc:=cells_of (hm.at hrow.out (by simp));simp[hc]
   ·obtain rfl:k=1:=by omega
    refine⟨⟨cn,csize,0,ccap,cb,co,cr,cframes,cstack⟩,hc4,fun w' hm=> ?_⟩;have hc:=cells_of (hm.at hrow.out (by simp));simp[hc])
  clear hS5 hrow hc4
  try clear e0
  try clear e1
  try clear e2
  try clear e3
  try clear e4
  try clear e5
  try clear e6
  try clear e7
  try clear e8
  try clear e9
  go_loopw [71] (fun i wr=>∃k:Nat,k≤2∧i=.int .i64 k∧Mod [] W5 wr) (fun i _=>2-(intOf i).toNat)
  case atStart=>exact⟨0,by omega,rfl,Mod.refl _ _⟩
  case round=>
   obtain⟨k,hk,rfl,hm⟩:=hrel;have hmH:=Lib.hid hm;by_cases hlt:k<2
   ·obtain⟨⟨fn,fsize,ffirst,fcap,fb,fo,fr,fframes,fstack⟩,hfR,hcl⟩:=hfs.out k hlt;obtain⟨q0,q1,q2,q3,q4,q5,q6,q7,q8⟩:=hcl wr hm;simp only at q0 q1 q2 q3 q4 q5 q6 q7 q8;have hX:=Lib.hid ((Scene.empty wr).alloc (.cells #[.int .i64 fn,.int .i64 fsize,.int .u32 ffirst,.int .i64 fcap,.int .i64 fb,.int .i64 fo,.int .i64 fr,.int .i64 fframes,.int .i64 fstack] 81));have hfRH:=Lib.hid hfR;clear hm hcl hfR;by_cases hok:cfOk ⟨fn,fsize,ffirst,fcap,fb,fo,fr,fframes,fstack⟩
    ·have hnew:=Lib.hid (hnew_ok hX.out ⟨fn,fsize,ffirst,fcap,fb,fo,fr,fframes,fstack⟩ hok hfRH.out.1 hfRH.out.2);have hch:=Lib.hid fun w'=>check_ok ⟨fn,fsize,ffirst,fcap,fb,fo,fr,fframes,fstack⟩ w'
     have hrc:=Lib.hid fun w'=>rcheck_ok ⟨fn,fsize,ffirst,fcap,fb,fo,fr,fframes,fstack⟩ w'
     rw[cfE_ok hok]at hch hrc;unfold cfA at hnew hch hrc;simp only at hnew hch hrc;clear hok;go_wp2_with fail;refine hnew.out.mono ?_;rintro e w6 ⟨a,rfl,hS6⟩;have hm6:=Lib.hid (hmH.out.nil_then hS6.mod);have c6:=cells_of (hS6.block 1 rfl);have k1:=GW.cells (S:=[]) (hS6.block 1 rfl) (by simp);clear hnew hS6 q0 q1 q2 q3 q4 q5 q6 q7 q8;clear hX c6;go_wp2_with fail;refine wp_region_pure (by kernel_rfl) (by kernel_rfl) ?_;refine stage_quiet 1 (by kernel_rfl) ?_;simp only[tA,tB,tC,tD];(repeat go_big_quiet_step (fail));refine wpQuiet_nil ?_;refine stage_pure 34 #[.agg #[.int .i64 fn,.int .i64 fsize,.int .u32 ffirst,.int .i64 fcap,.int .i64 fb,.int .i64 fo,.int .i64 fr,.int .i64 fframes,.int .i64 fstack]] (.int .i64 0) rfl Tryz.call34 rfl rfl (fun w' _=>hch.out w') ?_;simp only[Act.put,sA,sB,sC];refine stage_quiet 1 (by kernel_rfl) ?_;simp only[tA,tB,tC,tD];(repeat go_big_quiet_step (fail));refine wpQuiet_nil ?_;refine stage_pure 35 #[.agg #[.int .i64 fn,.int .i64 fsize,.int .u32 ffirst,.int .i64 fcap,.int .i64 fb,.int .i64 fo,.int .i64 fr,.int .i64 fframes,.int .i64 fstack]] (.int .i64 0) rfl Tryz.call35 rfl rfl (fun w' _=>hrc.out w') ?_;simp only[Act.put,sA,sB,sC];refine stage_quiet 4 (by kernel_rfl) ?_;simp only[tA,tB,tC,tD];(repeat go_big_quiet_step (fail));refine wpQuiet_nil ?_;refine stage_pure 35 #[.agg #[.int .i64 fn,.int .i64 fsize,.int .u32 ffirst,.int .i64 fcap,.int .i64 fb,.int .i64 fo,.int .i64 fr,.int .i64 fframes,.int .i64 fstack]] (.int .i64 0) rfl Tryz.call35 rfl rfl (fun w' _=>hrc.out w') ?_;simp only[Act.put,sA,sB,sC];refine stage_quiet 9 (by kernel_rfl) ?_;simp only[tA,tB,tC,tD];(repeat go_big_quiet_step (fail));refine wpQuiet_nil ?_;refine stage_nil fun w7 hm7=> ?_
     have hm8:=Lib.hid (hm6.out.nil_then hm7);clear k1 hch hrc hm7 hm6;go_wp2_with fail;go_roundw
     case rel=>exact⟨k+1,by omega,by go_num,hm8.out⟩
     case measure=>simp[intOf];omega
    ·have hnew:=Lib.hid (hnew_bad ⟨fn,fsize,ffirst,fcap,fb,fo,fr,fframes,fstack⟩ hok);have hch:=Lib.hid fun w'=>check_ok ⟨fn,fsize,ffirst,fcap,fb,fo,fr,fframes,fstack⟩ w'
     have hrc:=Lib.hid fun w'=>rcheck_ok ⟨fn,fsize,ffirst,fcap,fb,fo,fr,fframes,fstack⟩ w'
     rw[cfE_bad hok]at hch hrc;unfold cfA at hnew hch hrc;simp only at hnew hch hrc;clear hok;go_wp2_with fail;refine(hnew.out _).mono ?_;rintro e w6 ⟨rfl,hm'⟩;have hS6:=hX.out.then hm';have hm6:=Lib.hid (hmH.out.nil_then hS6.mod);have c6:=cells_of (hS6.block 0 rfl);have k1:=GW.cells (S:=[]) (hS6.block 0 rfl) (by simp);clear hnew hS6 hm' q0 q1 q2 q3 q4 q5 q6 q7 q8;clear hX c6;go_wp2_with fail;refine wp_region_pure (by kernel_rfl) (by kernel_rfl) ?_;refine stage_quiet 1 (by kernel_rfl) ?_;simp only[tA,tB,tC,tD];(repeat go_big_quiet_step (fail));refine wpQuiet_nil ?_;refine stage_pure 34 #[.agg #[.int .i64 fn,.int .i64 fsize,.int .u32 ffirst,.int .i64 fcap,.int .i64 fb,.int .i64 fo,.int .i64 fr,.int .i64 fframes,.int .i64 fstack]] (.int .i64 1) rfl Tryz.call34 rfl rfl (fun w' _=>hch.out w') ?_;simp only[Act.put,sA,sB,sC];refine stage_quiet 1 (by kernel_rfl) ?_;simp only[tA,tB,tC,tD];(repeat go_big_quiet_step (fail));refine wpQuiet_nil ?_;refine stage_pure 35 #[.agg #[.int .i64 fn,.int .i64 fsize,.int .u32 ffirst,.int .i64 fcap,.int .i64 fb,.int .i64 fo,.int .i64 fr,.int .i64 fframes,.int .i64 fstack]] (.int .i64 1) rfl Tryz.call35 rfl rfl (fun w' _=>hrc.out w') ?_;simp only[Act.put,sA,sB,sC];refine stage_quiet 4 (by kernel_rfl) ?_;simp only[tA,tB,tC,tD];(repeat go_big_quiet_step (fail));refine wpQuiet_nil ?_;refine stage_pure 35 #[.agg #[.int .i64 fn,.int .i64 fsize,.int .u32 ffirst,.int .i64 fcap,.int .i64 fb,.int .i64 fo,.int .i64 fr,.int .i64 fframes,.int .i64 fstack]] (.int .i64 1) rfl Tryz.call35 rfl rfl (fun w' _=>hrc.out w') ?_;simp only[Act.put,sA,sB,sC];refine stage_quiet 9 (by kernel_rfl) ?_;simp only[tA,tB,tC,tD];(repeat go_big_quiet_step (fail));refine wpQuiet_nil ?_;refine stage_nil fun w7 hm7=> ?_
     have hm8:=Lib.hid (hm6.out.nil_then hm7);clear k1 hch hrc hm7 hm6;go_wp2_with fail;go_roundw
     case rel=>exact⟨k+1,by omega,by go_num,hm8.out⟩
     case measure=>simp[intOf];omega
   ·obtain rfl:k=2:=by omega
    clear hm hfs;go_wp2_with fail;refine(awake_ok _).mono ?_;rintro e w7 ⟨rfl,hm7⟩;have hm8:=Lib.hid (hmW.out.nil_then (hmH.out.nil_then hm7));clear hm7;go_wp2_with fail;go_ret;exact⟨rfl,hm8.out⟩
 have e2:(what%12==2)=false:=by simp[m2]
 clear m2;by_cases m3:what%12=3
 ·have e3:(what%12==3)=true:=by simp[m3]
  clear m3;have hS4:=Lib.hid (hS3.out.blockSet 0 rfl 3 (.int .i64 n));have hc4:CfR ⟨cn,csize,cfirst,n,cb,co,cr,cframes,cstack⟩:=by unfold CfR;have:=hcmH.out;unfold CfMade at this;simp only at this⊢;omega
  have c1:=cells_of (hS4.out.block 0 rfl);have c2:=cells_of (hS4.out.block 2 rfl);go_wp2_with fail;have hS5:=(hS4.out.alloc (.cells #[.int .i64 rn,.int .i64 rsize,.int .u32 rfirst,.int .i64 rcap,.int .i64 rb,.int .i64 ro,.int .i64 rr,.int .i64 rframes,.int .i64 rstack,.int .i64 cn,.int .i64 csize,.int .u32 cfirst,.int .i64 n,.int .i64 cb,.int .i64 co,.int .i64 cr,.int .i64 cframes,.int .i64 cstack] 81));rw[show(W3.setCell ⟨w2.heap.size,3,none⟩ (.int .i64 n)).heap.size=W3.heap.size by simp]at hS5;have hS5:=Lib.hid hS5;have hrow:=Lib.hid (hS5.out.block 0 rfl);have hmW:=Lib.hid hS5.out.mod;clear c0 f0 c1 c2 hS4 hS3 hS2;generalize(W3.setCell ⟨w2.heap.size,3,none⟩ (.int .i64 n)).alloc (.cells #[.int .i64 rn,.int .i64 rsize,.int .u32 rfirst,.int .i64 rcap,.int .i64 rb,.int .i64 ro,.int .i64 rr,.int .i64 rframes,.int .i64 rstack,.int .i64 cn,.int .i64 csize,.int .u32 cfirst,.int .i64 n,.int .i64 cb,.int .i64 co,.int .i64 cr,.int .i64 cframes,.int .i64 cstack] 81)=W5 at*;generalize W3.heap.size=bR at*;have hfs:=Lib.hid (show∀k:Nat,k<2→∃f:Cf,CfR f∧∀w',Mod [] W5 w'→w'.cell? ⟨bR,k*9,none⟩=some (.int .i64 f.n)∧w'.cell? ⟨bR,k*9+1,none⟩=some (.int .i64 f.size)∧w'.cell? ⟨bR,k*9+2,none⟩=some (.int .u32 f.first)∧w'.cell? ⟨bR,k*9+3,none⟩=some (.int .i64 f.cap)∧w'.cell? ⟨bR,k*9+4,none⟩=some (.int .i64 f.b)∧w'.cell? ⟨bR,k*9+5,none⟩=some (.int .i64 f.o)∧w'.cell? ⟨bR,k*9+6,none⟩=some (.int .i64 f.r)∧w'.cell? ⟨bR,k*9+7,none⟩=some (.int .i64 f.frames)∧w'.cell? ⟨bR,k*9+8,none⟩=some (.int .i64 f.stack)from fun k hk=>by
   have hc:=cells_of hrow.out;by_cases h:k=0
   ·subst h;refine⟨_,hfH.out,fun w' hm=> ?_⟩;have hc:=cells_of (hm.at hrow.out (by simp));simp[hc]
   ·obtain rfl:k=1:=by omega
    refine⟨⟨cn,csize,cfirst,n,cb,co,cr,cframes,cstack⟩,hc4,fun w' hm=> ?_⟩;have hc:=cells_of (hm.at hrow.out (by simp));simp[hc])
  clear hS5 hrow hc4
  try clear e0
  try clear e1
  try clear e2
  try clear e3
  try clear e4
  try clear e5
  try clear e6
  try clear e7
  try clear e8
  try clear e9
  go_loopw [71] (fun i wr=>∃k:Nat,k≤2∧i=.int .i64 k∧Mod [] W5 wr) (fun i _=>2-(intOf i).toNat)
  case atStart=>exact⟨0,by omega,rfl,Mod.refl _ _⟩
  case round=>
   obtain⟨k,hk,rfl,hm⟩:=hrel;have hmH:=Lib.hid hm;by_cases hlt:k<2
   ·obtain⟨⟨fn,fsize,ffirst,fcap,fb,fo,fr,fframes,fstack⟩,hfR,hcl⟩:=hfs.out k hlt;obtain⟨q0,q1,q2,q3,q4,q5,q6,q7,q8⟩:=hcl wr hm;simp only at q0 q1 q2 q3 q4 q5 q6 q7 q8;have hX:=Lib.hid ((Scene.empty wr).alloc (.cells #[.int .i64 fn,.int .i64 fsize,.int .u32 ffirst,.int .i64 fcap,.int .i64 fb,.int .i64 fo,.int .i64 fr,.int .i64 fframes,.int .i64 fstack] 81));have hfRH:=Lib.hid hfR;clear hm hcl hfR;by_cases hok:cfOk ⟨fn,fsize,ffirst,fcap,fb,fo,fr,fframes,fstack⟩
    ·have hnew:=Lib.hid (hnew_ok hX.out ⟨fn,fsize,ffirst,fcap,fb,fo,fr,fframes,fstack⟩ hok hfRH.out.1 hfRH.out.2);have hch:=Lib.hid fun w'=>check_ok ⟨fn,fsize,ffirst,fcap,fb,fo,fr,fframes,fstack⟩ w'
     have hrc:=Lib.hid fun w'=>rcheck_ok ⟨fn,fsize,ffirst,fcap,fb,fo,fr,fframes,fstack⟩ w'
     rw[cfE_ok hok]at hch hrc;unfold cfA at hnew hch hrc;simp only at hnew hch hrc;clear hok;go_wp2_with fail;refine hnew.out.mono ?_;rintro e w6 ⟨a,rfl,hS6⟩;have hm6:=Lib.hid (hmH.out.nil_then hS6.mod);have c6:=cells_of (hS6.block 1 rfl);have k1:=GW.cells (S:=[]) (hS6.block 1 rfl) (by simp);clear hnew hS6 q0 q1 q2 q3 q4 q5 q6 q7 q8;clear hX c6;go_wp2_with fail;refine wp_region_pure (by kernel_rfl) (by kernel_rfl) ?_;refine stage_quiet 1 (by kernel_rfl) ?_;simp only[tA,tB,tC,tD];(repeat go_big_quiet_step (fail));refine wpQuiet_nil ?_;refine stage_pure 34 #[.agg #[.int .i64 fn,.int .i64 fsize,.int .u32 ffirst,.int .i64 fcap,.int .i64 fb,.int .i64 fo,.int .i64 fr,.int .i64 fframes,.int .i64 fstack]] (.int .i64 0) rfl Tryz.call34 rfl rfl (fun w' _=>hch.out w') ?_;simp only[Act.put,sA,sB,sC];refine stage_quiet 1 (by kernel_rfl) ?_;simp only[tA,tB,tC,tD];(repeat go_big_quiet_step (fail));refine wpQuiet_nil ?_;refine stage_pure 35 #[.agg #[.int .i64 fn,.int .i64 fsize,.int .u32 ffirst,.int .i64 fcap,.int .i64 fb,.int .i64 fo,.int .i64 fr,.int .i64 fframes,.int .i64 fstack]] (.int .i64 0) rfl Tryz.call35 rfl rfl (fun w' _=>hrc.out w') ?_;simp only[Act.put,sA,sB,sC];refine stage_quiet 4 (by kernel_rfl) ?_;simp only[tA,tB,tC,tD];(repeat go_big_quiet_step (fail));refine wpQuiet_nil ?_;refine stage_pure 35 #[.agg #[.int .i64 fn,.int .i64 fsize,.int .u32 ffirst,.int .i64 fcap,.int .i64 fb,.int .i64 fo,.int .i64 fr,.int .i64 fframes,.int .i64 fstack]] (.int .i64 0) rfl Tryz.call35 rfl rfl (fun w' _=>hrc.out w') ?_;simp only[Act.put,sA,sB,sC];refine stage_quiet 9 (by kernel_rfl) ?_;simp only[tA,tB,tC,tD];(repeat go_big_quiet_step (fail));refine wpQuiet_nil ?_;refine stage_nil fun w7 hm7=> ?_
     have hm8:=Lib.hid (hm6.out.nil_then hm7);clear k1 hch hrc hm7 hm6;go_wp2_with fail;go_roundw
     case rel=>exact⟨k+1,by omega,by go_num,hm8.out⟩
     case measure=>simp[intOf];omega
    ·have hnew:=Lib.hid (hnew_bad ⟨fn,fsize,ffirst,fcap,fb,fo,fr,fframes,fstack⟩ hok);have hch:=Lib.hid fun w'=>check_ok ⟨fn,fsize,ffirst,fcap,fb,fo,fr,fframes,fstack⟩ w'
     have hrc:=Lib.hid fun w'=>rcheck_ok ⟨fn,fsize,ffirst,fcap,fb,fo,fr,fframes,fstack⟩ w'
     rw[cfE_bad hok]at hch hrc;unfold cfA at hnew hch hrc;simp only at hnew hch hrc;clear hok;go_wp2_with fail;refine(hnew.out _).mono ?_;rintro e w6 ⟨rfl,hm'⟩;have hS6:=hX.out.then hm';have hm6:=Lib.hid (hmH.out.nil_then hS6.mod);have c6:=cells_of (hS6.block 0 rfl);have k1:=GW.cells (S:=[]) (hS6.block 0 rfl) (by simp);clear hnew hS6 hm' q0 q1 q2 q3 q4 q5 q6 q7 q8;clear hX c6;go_wp2_with fail;refine wp_region_pure (by kernel_rfl) (by kernel_rfl) ?_;refine stage_quiet 1 (by kernel_rfl) ?_;simp only[tA,tB,tC,tD];(repeat go_big_quiet_step (fail));refine wpQuiet_nil ?_;refine stage_pure 34 #[.agg #[.int .i64 fn,.int .i64 fsize,.int .u32 ffirst,.int .i64 fcap,.int .i64 fb,.int .i64 fo,.int .i64 fr,.int .i64 fframes,.int .i64 fstack]] (.int .i64 1) rfl Tryz.call34 rfl rfl (fun w' _=>hch.out w') ?_;simp only[Act.put,sA,sB,sC];refine stage_quiet 1 (by kernel_rfl) ?_;simp only[tA,tB,tC,tD];(repeat go_big_quiet_step (fail));refine wpQuiet_nil ?_;refine stage_pure 35 #[.agg #[.int .i64 fn,.int .i64 fsize,.int .u32 ffirst,.int .i64 fcap,.int .i64 fb,.int .i64 fo,.int .i64 fr,.int .i64 fframes,.int .i64 fstack]] (.int .i64 1) rfl Tryz.call35 rfl rfl (fun w' _=>hrc.out w') ?_;simp only[Act.put,sA,sB,sC];refine stage_quiet 4 (by kernel_rfl) ?_;simp only[tA,tB,tC,tD];(repeat go_big_quiet_step (fail));refine wpQuiet_nil ?_;refine stage_pure 35 #[.agg #[.int .i64 fn,.int .i64 fsize,.int .u32 ffirst,.int .i64 fcap,.int .i64 fb,.int .i64 fo,.int .i64 fr,.int .i64 fframes,.int .i64 fstack]] (.int .i64 1) rfl Tryz.call35 rfl rfl (fun w' _=>hrc.out w') ?_;simp only[Act.put,sA,sB,sC];refine stage_quiet 9 (by kernel_rfl) ?_;simp only[tA,tB,tC,tD];(repeat go_big_quiet_step (fail));refine wpQuiet_nil ?_;refine stage_nil fun w7 hm7=> ?_
     have hm8:=Lib.hid (hm6.out.nil_then hm7);clear k1 hch hrc hm7 hm6;go_wp2_with fail;go_roundw
     case rel=>exact⟨k+1,by omega,by go_num,hm8.out⟩
     case measure=>simp[intOf];omega
   ·obtain rfl:k=2:=by omega
    clear hm hfs;go_wp2_with fail;refine(awake_ok _).mono ?_;rintro e w7 ⟨rfl,hm7⟩;have hm8:=Lib.hid (hmW.out.nil_then (hmH.out.nil_then hm7));clear hm7;go_wp2_with fail;go_ret;exact⟨rfl,hm8.out⟩
 have e3:(what%12==3)=false:=by simp[m3]
 clear m3;by_cases m4:what%12=4
 ·have e4:(what%12==4)=true:=by simp[m4]
  clear m4;have hS4:=Lib.hid (hS3.out.blockSet 0 rfl 4 (.int .i64 n));have hc4:CfR ⟨cn,csize,cfirst,ccap,n,co,cr,cframes,cstack⟩:=by unfold CfR;have:=hcmH.out;unfold CfMade at this;simp only at this⊢;omega
  have c1:=cells_of (hS4.out.block 0 rfl);have c2:=cells_of (hS4.out.block 2 rfl);go_wp2_with fail;have hS5:=(hS4.out.alloc (.cells #[.int .i64 rn,.int .i64 rsize,.int .u32 rfirst,.int .i64 rcap,.int .i64 rb,.int .i64 ro,.int .i64 rr,.int .i64 rframes,.int .i64 rstack,.int .i64 cn,.int .i64 csize,.int .u32 cfirst,.int .i64 ccap,.int .i64 n,.int .i64 co,.int .i64 cr,.int .i64 cframes,.int .i64 cstack] 81));rw[show(W3.setCell ⟨w2.heap.size,4,none⟩ (.int .i64 n)).heap.size=W3.heap.size by simp]at hS5;have hS5:=Lib.hid hS5;have hrow:=Lib.hid (hS5.out.block 0 rfl);have hmW:=Lib.hid hS5.out.mod;clear c0 f0 c1 c2 hS4 hS3 hS2;generalize(W3.setCell ⟨w2.heap.size,4,none⟩ (.int .i64 n)).alloc (.cells #[.int .i64 rn,.int .i64 rsize,.int .u32 rfirst,.int .i64 rcap,.int .i64 rb,.int .i64 ro,.int .i64 rr,.int .i64 rframes,.int .i64 rstack,.int .i64 cn,.int .i64 csize,.int .u32 cfirst,.int .i64 ccap,.int .i64 n,.int .i64 co,.int .i64 cr,.int .i64 cframes,.int .i64 cstack] 81)=W5 at*;generalize W3.heap.size=bR at*;have hfs:=Lib.hid (show∀k:Nat,k<2→∃f:Cf,CfR f∧∀w',Mod [] W5 w'→w'.cell? ⟨bR,k*9,none⟩=some (.int .i64 f.n)∧w'.cell? ⟨bR,k*9+1,none⟩=some (.int .i64 f.size)∧w'.cell? ⟨bR,k*9+2,none⟩=some (.int .u32 f.first)∧w'.cell? ⟨bR,k*9+3,none⟩=some (.int .i64 f.cap)∧w'.cell? ⟨bR,k*9+4,none⟩=some (.int .i64 f.b)∧w'.cell? ⟨bR,k*9+5,none⟩=some (.int .i64 f.o)∧w'.cell? ⟨bR,k*9+6,none⟩=some (.int .i64 f.r)∧w'.cell? ⟨bR,k*9+7,none⟩=some (.int .i64 f.frames)∧w'.cell? ⟨bR,k*9+8,none⟩=some (.int .i64 f.stack)from fun k hk=>by
   have hc:=cells_of hrow.out;by_cases h:k=0
   ·subst h;refine⟨_,hfH.out,fun w' hm=> ?_⟩;have hc:=cells_of (hm.at hrow.out (by simp));simp[hc]
   ·obtain rfl:k=1:=by omega
    refine⟨⟨cn,csize,cfirst,ccap,n,co,cr,cframes,cstack⟩,hc4,fun w' hm=> ?_⟩;have hc:=cells_of (hm.at hrow.out (by simp));simp[hc])
  clear hS5 hrow hc4
  try clear e0
  try clear e1
  try clear e2
  try clear e3
  try clear e4
  try clear e5
  try clear e6
  try clear e7
  try clear e8
  try clear e9
  go_loopw [71] (fun i wr=>∃k:Nat,k≤2∧i=.int .i64 k∧Mod [] W5 wr) (fun i _=>2-(intOf i).toNat)
  case atStart=>exact⟨0,by omega,rfl,Mod.refl _ _⟩
  case round=>
   obtain⟨k,hk,rfl,hm⟩:=hrel;have hmH:=Lib.hid hm;by_cases hlt:k<2
   ·obtain⟨⟨fn,fsize,ffirst,fcap,fb,fo,fr,fframes,fstack⟩,hfR,hcl⟩:=hfs.out k hlt;obtain⟨q0,q1,q2,q3,q4,q5,q6,q7,q8⟩:=hcl wr hm;simp only at q0 q1 q2 q3 q4 q5 q6 q7 q8;have hX:=Lib.hid ((Scene.empty wr).alloc (.cells #[.int .i64 fn,.int .i64 fsize,.int .u32 ffirst,.int .i64 fcap,.int .i64 fb,.int .i64 fo,.int .i64 fr,.int .i64 fframes,.int .i64 fstack] 81));have hfRH:=Lib.hid hfR;clear hm hcl hfR;by_cases hok:cfOk ⟨fn,fsize,ffirst,fcap,fb,fo,fr,fframes,fstack⟩
    ·have hnew:=Lib.hid (hnew_ok hX.out ⟨fn,fsize,ffirst,fcap,fb,fo,fr,fframes,fstack⟩ hok hfRH.out.1 hfRH.out.2);have hch:=Lib.hid fun w'=>check_ok ⟨fn,fsize,ffirst,fcap,fb,fo,fr,fframes,fstack⟩ w'
     have hrc:=Lib.hid fun w'=>rcheck_ok ⟨fn,fsize,ffirst,fcap,fb,fo,fr,fframes,fstack⟩ w'
     rw[cfE_ok hok]at hch hrc;unfold cfA at hnew hch hrc;simp only at hnew hch hrc;clear hok;go_wp2_with fail;refine hnew.out.mono ?_;rintro e w6 ⟨a,rfl,hS6⟩;have hm6:=Lib.hid (hmH.out.nil_then hS6.mod);have c6:=cells_of (hS6.block 1 rfl);have k1:=GW.cells (S:=[]) (hS6.block 1 rfl) (by simp);clear hnew hS6 q0 q1 q2 q3 q4 q5 q6 q7 q8;clear hX c6;go_wp2_with fail;refine wp_region_pure (by kernel_rfl) (by kernel_rfl) ?_;refine stage_quiet 1 (by kernel_rfl) ?_;simp only[tA,tB,tC,tD];(repeat go_big_quiet_step (fail));refine wpQuiet_nil ?_;refine stage_pure 34 #[.agg #[.int .i64 fn,.int .i64 fsize,.int .u32 ffirst,.int .i64 fcap,.int .i64 fb,.int .i64 fo,.int .i64 fr,.int .i64 fframes,.int .i64 fstack]] (.int .i64 0) rfl Tryz.call34 rfl rfl (fun w' _=>hch.out w') ?_;simp only[Act.put,sA,sB,sC];refine stage_quiet 1 (by kernel_rfl) ?_;simp only[tA,tB,tC,tD];(repeat go_big_quiet_step (fail));refine wpQuiet_nil ?_;refine stage_pure 35 #[.agg #[.int .i64 fn,.int .i64 fsize,.int .u32 ffirst,.int .i64 fcap,.int .i64 fb,.int .i64 fo,.int .i64 fr,.int .i64 fframes,.int .i64 fstack]] (.int .i64 0) rfl Tryz.call35 rfl rfl (fun w' _=>hrc.out w') ?_;simp only[Act.put,sA,sB,sC];refine stage_quiet 4 (by kernel_rfl) ?_;simp only[tA,tB,tC,tD];(repeat go_big_quiet_step (fail));refine wpQuiet_nil ?_;refine stage_pure 35 #[.agg #[.int .i64 fn,.int .i64 fsize,.int .u32 ffirst,.int .i64 fcap,.int .i64 fb,.int .i64 fo,.int .i64 fr,.int .i64 fframes,.int .i64 fstack]] (.int .i64 0) rfl Tryz.call35 rfl rfl (fun w' _=>hrc.out w') ?_;simp only[Act.put,sA,sB,sC];refine stage_quiet 9 (by kernel_rfl) ?_;simp only[tA,tB,tC,tD];(repeat go_big_quiet_step (fail));refine wpQuiet_nil ?_;refine stage_nil fun w7 hm7=> ?_
     have hm8:=Lib.hid (hm6.out.nil_then hm7);clear k1 hch hrc hm7 hm6;go_wp2_with fail;go_roundw
     case rel=>exact⟨k+1,by omega,by go_num,hm8.out⟩
     case measure=>simp[intOf];omega
    ·have hnew:=Lib.hid (hnew_bad ⟨fn,fsize,ffirst,fcap,fb,fo,fr,fframes,fstack⟩ hok);have hch:=Lib.hid fun w'=>check_ok ⟨fn,fsize,ffirst,fcap,fb,fo,fr,fframes,fstack⟩ w'
     have hrc:=Lib.hid fun w'=>rcheck_ok ⟨fn,fsize,ffirst,fcap,fb,fo,fr,fframes,fstack⟩ w'
     rw[cfE_bad hok]at hch hrc;unfold cfA at hnew hch hrc;simp only at hnew hch hrc;clear hok;go_wp2_with fail;refine(hnew.out _).mono ?_;rintro e w6 ⟨rfl,hm'⟩;have hS6:=hX.out.then hm';have hm6:=Lib.hid (hmH.out.nil_then hS6.mod);have c6:=cells_of (hS6.block 0 rfl);have k1:=GW.cells (S:=[]) (hS6.block 0 rfl) (by simp);clear hnew hS6 hm' q0 q1 q2 q3 q4 q5 q6 q7 q8;clear hX c6;go_wp2_with fail;refine wp_region_pure (by kernel_rfl) (by kernel_rfl) ?_;refine stage_quiet 1 (by kernel_rfl) ?_;simp only[tA,tB,tC,tD];(repeat go_big_quiet_step (fail));refine wpQuiet_nil ?_;refine stage_pure 34 #[.agg #[.int .i64 fn,.int .i64 fsize,.int .u32 ffirst,.int .i64 fcap,.int .i64 fb,.int .i64 fo,.int .i64 fr,.int .i64 fframes,.int .i64 fstack]] (.int .i64 1) rfl Tryz.call34 rfl rfl (fun w' _=>hch.out w') ?_;simp only[Act.put,sA,sB,sC];refine stage_quiet 1 (by kernel_rfl) ?_;simp only[tA,tB,tC,tD];(repeat go_big_quiet_step (fail));refine wpQuiet_nil ?_;refine stage_pure 35 #[.agg #[.int .i64 fn,.int .i64 fsize,.int .u32 ffirst,.int .i64 fcap,.int .i64 fb,.int .i64 fo,.int .i64 fr,.int .i64 fframes,.int .i64 fstack]] (.int .i64 1) rfl Tryz.call35 rfl rfl (fun w' _=>hrc.out w') ?_;simp only[Act.put,sA,sB,sC];refine stage_quiet 4 (by kernel_rfl) ?_;simp only[tA,tB,tC,tD];(repeat go_big_quiet_step (fail));refine wpQuiet_nil ?_;refine stage_pure 35 #[.agg #[.int .i64 fn,.int .i64 fsize,.int .u32 ffirst,.int .i64 fcap,.int .i64 fb,.int .i64 fo,.int .i64 fr,.int .i64 fframes,.int .i64 fstack]] (.int .i64 1) rfl Tryz.call35 rfl rfl (fun w' _=>hrc.out w') ?_;simp only[Act.put,sA,sB,sC];refine stage_quiet 9 (by kernel_rfl) ?_;simp only[tA,tB,tC,tD];(repeat go_big_quiet_step (fail));refine wpQuiet_nil ?_;refine stage_nil fun w7 hm7=> ?_
     have hm8:=Lib.hid (hm6.out.nil_then hm7);clear k1 hch hrc hm7 hm6;go_wp2_with fail;go_roundw
     case rel=>exact⟨k+1,by omega,by go_num,hm8.out⟩
     case measure=>simp[intOf];omega
   ·obtain rfl:k=2:=by omega
    clear hm hfs;go_wp2_with fail;refine(awake_ok _).mono ?_;rintro e w7 ⟨rfl,hm7⟩;have hm8:=Lib.hid (hmW.out.nil_then (hmH.out.nil_then hm7));clear hm7;go_wp2_with fail;go_ret;exact⟨rfl,hm8.out⟩
 have e4:(what%12==4)=false:=by simp[m4]
 clear m4;by_cases m5:what%12=5
 ·have e5:(what%12==5)=true:=by simp[m5]
  clear m5;have hS4:=Lib.hid (hS3.out.blockSet 0 rfl 5 (.int .i64 n));have hc4:CfR ⟨cn,csize,cfirst,ccap,cb,n,cr,cframes,cstack⟩:=by unfold CfR;have:=hcmH.out;unfold CfMade at this;simp only at this⊢;omega
  have c1:=cells_of (hS4.out.block 0 rfl);have c2:=cells_of (hS4.out.block 2 rfl);go_wp2_with fail;have hS5:=(hS4.out.alloc (.cells #[.int .i64 rn,.int .i64 rsize,.int .u32 rfirst,.int .i64 rcap,.int .i64 rb,.int .i64 ro,.int .i64 rr,.int .i64 rframes,.int .i64 rstack,.int .i64 cn,.int .i64 csize,.int .u32 cfirst,.int .i64 ccap,.int .i64 cb,.int .i64 n,.int .i64 cr,.int .i64 cframes,.int .i64 cstack] 81));rw[show(W3.setCell ⟨w2.heap.size,5,none⟩ (.int .i64 n)).heap.size=W3.heap.size by simp]at hS5;have hS5:=Lib.hid hS5;have hrow:=Lib.hid (hS5.out.block 0 rfl);have hmW:=Lib.hid hS5.out.mod;clear c0 f0 c1 c2 hS4 hS3 hS2;generalize(W3.setCell ⟨w2.heap.size,5,none⟩ (.int .i64 n)).alloc (.cells #[.int .i64 rn,.int .i64 rsize,.int .u32 rfirst,.int .i64 rcap,.int .i64 rb,.int .i64 ro,.int .i64 rr,.int .i64 rframes,.int .i64 rstack,.int .i64 cn,.int .i64 csize,.int .u32 cfirst,.int .i64 ccap,.int .i64 cb,.int .i64 n,.int .i64 cr,.int .i64 cframes,.int .i64 cstack] 81)=W5 at*;generalize W3.heap.size=bR at*;have hfs:=Lib.hid (show∀k:Nat,k<2→∃f:Cf,CfR f∧∀w',Mod [] W5 w'→w'.cell? ⟨bR,k*9,none⟩=some (.int .i64 f.n)∧w'.cell? ⟨bR,k*9+1,none⟩=some (.int .i64 f.size)∧w'.cell? ⟨bR,k*9+2,none⟩=some (.int .u32 f.first)∧w'.cell? ⟨bR,k*9+3,none⟩=some (.int .i64 f.cap)∧w'.cell? ⟨bR,k*9+4,none⟩=some (.int .i64 f.b)∧w'.cell? ⟨bR,k*9+5,none⟩=some (.int .i64 f.o)∧w'.cell? ⟨bR,k*9+6,none⟩=some (.int .i64 f.r)∧w'.cell? ⟨bR,k*9+7,none⟩=some (.int .i64 f.frames)∧w'.cell? ⟨bR,k*9+8,none⟩=some (.int .i64 f.stack)from fun k hk=>by
   have hc:=cells_of hrow.out;by_cases h:k=0
   ·subst h;refine⟨_,hfH.out,fun w' hm=> ?_⟩;have hc:=cells_of (hm.at hrow.out (by simp));simp[hc]
   ·obtain rfl:k=1:=by omega
    refine⟨⟨cn,csize,cfirst,ccap,cb,n,cr,cframes,cstack⟩,hc4,fun w' hm=> ?_⟩;have hc:=cells_of (hm.at hrow.out (by simp));simp[hc])
  clear hS5 hrow hc4
  try clear e0
  try clear e1
  try clear e2
  try clear e3
  try clear e4
  try clear e5
  try clear e6
  try clear e7
  try clear e8
  try clear e9
  go_loopw [71] (fun i wr=>∃k:Nat,k≤2∧i=.int .i64 k∧Mod [] W5 wr) (fun i _=>2-(intOf i).toNat)
  case atStart=>exact⟨0,by omega,rfl,Mod.refl _ _⟩
  case round=>
   obtain⟨k,hk,rfl,hm⟩:=hrel;have hmH:=Lib.hid hm;by_cases hlt:k<2
   ·obtain⟨⟨fn,fsize,ffirst,fcap,fb,fo,fr,fframes,fstack⟩,hfR,hcl⟩:=hfs.out k hlt;obtain⟨q0,q1,q2,q3,q4,q5,q6,q7,q8⟩:=hcl wr hm;simp only at q0 q1 q2 q3 q4 q5 q6 q7 q8;have hX:=Lib.hid ((Scene.empty wr).alloc (.cells #[.int .i64 fn,.int .i64 fsize,.int .u32 ffirst,.int .i64 fcap,.int .i64 fb,.int .i64 fo,.int .i64 fr,.int .i64 fframes,.int .i64 fstack] 81));have hfRH:=Lib.hid hfR;clear hm hcl hfR;by_cases hok:cfOk ⟨fn,fsize,ffirst,fcap,fb,fo,fr,fframes,fstack⟩
    ·have hnew:=Lib.hid (hnew_ok hX.out ⟨fn,fsize,ffirst,fcap,fb,fo,fr,fframes,fstack⟩ hok hfRH.out.1 hfRH.out.2);have hch:=Lib.hid fun w'=>check_ok ⟨fn,fsize,ffirst,fcap,fb,fo,fr,fframes,fstack⟩ w'
     have hrc:=Lib.hid fun w'=>rcheck_ok ⟨fn,fsize,ffirst,fcap,fb,fo,fr,fframes,fstack⟩ w'
     rw[cfE_ok hok]at hch hrc;unfold cfA at hnew hch hrc;simp only at hnew hch hrc;clear hok;go_wp2_with fail;refine hnew.out.mono ?_;rintro e w6 ⟨a,rfl,hS6⟩;have hm6:=Lib.hid (hmH.out.nil_then hS6.mod);have c6:=cells_of (hS6.block 1 rfl);have k1:=GW.cells (S:=[]) (hS6.block 1 rfl) (by simp);clear hnew hS6 q0 q1 q2 q3 q4 q5 q6 q7 q8;clear hX c6;go_wp2_with fail;refine wp_region_pure (by kernel_rfl) (by kernel_rfl) ?_;refine stage_quiet 1 (by kernel_rfl) ?_;simp only[tA,tB,tC,tD];(repeat go_big_quiet_step (fail));refine wpQuiet_nil ?_;refine stage_pure 34 #[.agg #[.int .i64 fn,.int .i64 fsize,.int .u32 ffirst,.int .i64 fcap,.int .i64 fb,.int .i64 fo,.int .i64 fr,.int .i64 fframes,.int .i64 fstack]] (.int .i64 0) rfl Tryz.call34 rfl rfl (fun w' _=>hch.out w') ?_;simp only[Act.put,sA,sB,sC];refine stage_quiet 1 (by kernel_rfl) ?_;simp only[tA,tB,tC,tD];(repeat go_big_quiet_step (fail));refine wpQuiet_nil ?_;refine stage_pure 35 #[.agg #[.int .i64 fn,.int .i64 fsize,.int .u32 ffirst,.int .i64 fcap,.int .i64 fb,.int .i64 fo,.int .i64 fr,.int .i64 fframes,.int .i64 fstack]] (.int .i64 0) rfl Tryz.call35 rfl rfl (fun w' _=>hrc.out w') ?_;simp only[Act.put,sA,sB,sC];refine stage_quiet 4 (by kernel_rfl) ?_;simp only[tA,tB,tC,tD];(repeat go_big_quiet_step (fail));refine wpQuiet_nil ?_;refine stage_pure 35 #[.agg #[.int .i64 fn,.int .i64 fsize,.int .u32 ffirst,.int .i64 fcap,.int .i64 fb,.int .i64 fo,.int .i64 fr,.int .i64 fframes,.int .i64 fstack]] (.int .i64 0) rfl Tryz.call35 rfl rfl (fun w' _=>hrc.out w') ?_;simp only[Act.put,sA,sB,sC];refine stage_quiet 9 (by kernel_rfl) ?_;simp only[tA,tB,tC,tD];(repeat go_big_quiet_step (fail));refine wpQuiet_nil ?_;refine stage_nil fun w7 hm7=> ?_
     have hm8:=Lib.hid (hm6.out.nil_then hm7);clear k1 hch hrc hm7 hm6;go_wp2_with fail;go_roundw
     case rel=>exact⟨k+1,by omega,by go_num,hm8.out⟩
     case measure=>simp[intOf];omega
    ·have hnew:=Lib.hid (hnew_bad ⟨fn,fsize,ffirst,fcap,fb,fo,fr,fframes,fstack⟩ hok);have hch:=Lib.hid fun w'=>check_ok ⟨fn,fsize,ffirst,fcap,fb,fo,fr,fframes,fstack⟩ w'
     have hrc:=Lib.hid fun w'=>rcheck_ok ⟨fn,fsize,ffirst,fcap,fb,fo,fr,fframes,fstack⟩ w'
     rw[cfE_bad hok]at hch hrc;unfold cfA at hnew hch hrc;simp only at hnew hch hrc;clear hok;go_wp2_with fail;refine(hnew.out _).mono ?_;rintro e w6 ⟨rfl,hm'⟩;have hS6:=hX.out.then hm';have hm6:=Lib.hid (hmH.out.nil_then hS6.mod);have c6:=cells_of (hS6.block 0 rfl);have k1:=GW.cells (S:=[]) (hS6.block 0 rfl) (by simp);clear hnew hS6 hm' q0 q1 q2 q3 q4 q5 q6 q7 q8;clear hX c6;go_wp2_with fail;refine wp_region_pure (by kernel_rfl) (by kernel_rfl) ?_;refine stage_quiet 1 (by kernel_rfl) ?_;simp only[tA,tB,tC,tD];(repeat go_big_quiet_step (fail));refine wpQuiet_nil ?_;refine stage_pure 34 #[.agg #[.int .i64 fn,.int .i64 fsize,.int .u32 ffirst,.int .i64 fcap,.int .i64 fb,.int .i64 fo,.int .i64 fr,.int .i64 fframes,.int .i64 fstack]] (.int .i64 1) rfl Tryz.call34 rfl rfl (fun w' _=>hch.out w') ?_;simp only[Act.put,sA,sB,sC];refine stage_quiet 1 (by kernel_rfl) ?_;simp only[tA,tB,tC,tD];(repeat go_big_quiet_step (fail));refine wpQuiet_nil ?_;refine stage_pure 35 #[.agg #[.int .i64 fn,.int .i64 fsize,.int .u32 ffirst,.int .i64 fcap,.int .i64 fb,.int .i64 fo,.int .i64 fr,.int .i64 fframes,.int .i64 fstack]] (.int .i64 1) rfl Tryz.call35 rfl rfl (fun w' _=>hrc.out w') ?_;simp only[Act.put,sA,sB,sC];refine stage_quiet 4 (by kernel_rfl) ?_;simp only[tA,tB,tC,tD];(repeat go_big_quiet_step (fail));refine wpQuiet_nil ?_;refine stage_pure 35 #[.agg #[.int .i64 fn,.int .i64 fsize,.int .u32 ffirst,.int .i64 fcap,.int .i64 fb,.int .i64 fo,.int .i64 fr,.int .i64 fframes,.int .i64 fstack]] (.int .i64 1) rfl Tryz.call35 rfl rfl (fun w' _=>hrc.out w') ?_;simp only[Act.put,sA,sB,sC];refine stage_quiet 9 (by kernel_rfl) ?_;simp only[tA,tB,tC,tD];(repeat go_big_quiet_step (fail));refine wpQuiet_nil ?_;refine stage_nil fun w7 hm7=> ?_
     have hm8:=Lib.hid (hm6.out.nil_then hm7);clear k1 hch hrc hm7 hm6;go_wp2_with fail;go_roundw
     case rel=>exact⟨k+1,by omega,by go_num,hm8.out⟩
     case measure=>simp[intOf];omega
   ·obtain rfl:k=2:=by omega
    clear hm hfs;go_wp2_with fail;refine(awake_ok _).mono ?_;rintro e w7 ⟨rfl,hm7⟩;have hm8:=Lib.hid (hmW.out.nil_then (hmH.out.nil_then hm7));clear hm7;go_wp2_with fail;go_ret;exact⟨rfl,hm8.out⟩
 have e5:(what%12==5)=false:=by simp[m5]
 clear m5;by_cases m6:what%12=6
 ·have e6:(what%12==6)=true:=by simp[m6]
  clear m6;have hS4:=Lib.hid (hS3.out.blockSet 0 rfl 6 (.int .i64 n));have hc4:CfR ⟨cn,csize,cfirst,ccap,cb,co,n,cframes,cstack⟩:=by unfold CfR;have:=hcmH.out;unfold CfMade at this;simp only at this⊢;omega
  have c1:=cells_of (hS4.out.block 0 rfl);have c2:=cells_of (hS4.out.block 2 rfl);go_wp2_with fail;have hS5:=(hS4.out.alloc (.cells #[.int .i64 rn,.int .i64 rsize,.int .u32 rfirst,.int .i64 rcap,.int .i64 rb,.int .i64 ro,.int .i64 rr,.int .i64 rframes,.int .i64 rstack,.int .i64 cn,.int .i64 csize,.int .u32 cfirst,.int .i64 ccap,.int .i64 cb,.int .i64 co,.int .i64 n,.int .i64 cframes,.int .i64 cstack] 81));rw[show(W3.setCell ⟨w2.heap.size,6,none⟩ (.int .i64 n)).heap.size=W3.heap.size by simp]at hS5;have hS5:=Lib.hid hS5;have hrow:=Lib.hid (hS5.out.block 0 rfl);have hmW:=Lib.hid hS5.out.mod;clear c0 f0 c1 c2 hS4 hS3 hS2;generalize(W3.setCell ⟨w2.heap.size,6,none⟩ (.int .i64 n)).alloc (.cells #[.int .i64 rn,.int .i64 rsize,.int .u32 rfirst,.int .i64 rcap,.int .i64 rb,.int .i64 ro,.int .i64 rr,.int .i64 rframes,.int .i64 rstack,.int .i64 cn,.int .i64 csize,.int .u32 cfirst,.int .i64 ccap,.int .i64 cb,.int .i64 co,.int .i64 n,.int .i64 cframes,.int .i64 cstack] 81)=W5 at*;generalize W3.heap.size=bR at*;have hfs:=Lib.hid (show∀k:Nat,k<2→∃f:Cf,CfR f∧∀w',Mod [] W5 w'→w'.cell? ⟨bR,k*9,none⟩=some (.int .i64 f.n)∧w'.cell? ⟨bR,k*9+1,none⟩=some (.int .i64 f.size)∧w'.cell? ⟨bR,k*9+2,none⟩=some (.int .u32 f.first)∧w'.cell? ⟨bR,k*9+3,none⟩=some (.int .i64 f.cap)∧w'.cell? ⟨bR,k*9+4,none⟩=some (.int .i64 f.b)∧w'.cell? ⟨bR,k*9+5,none⟩=some (.int .i64 f.o)∧w'.cell? ⟨bR,k*9+6,none⟩=some (.int .i64 f.r)∧w'.cell? ⟨bR,k*9+7,none⟩=some (.int .i64 f.frames)∧w'.cell? ⟨bR,k*9+8,none⟩=some (.int .i64 f.stack)from fun k hk=>by
   have hc:=cells_of hrow.out;by_cases h:k=0
   ·subst h;refine⟨_,hfH.out,fun w' hm=> ?_⟩;have hc:=cells_of (hm.at hrow.out (by simp));simp[hc]
   ·obtain rfl:k=1:=by omega
    refine⟨⟨cn,csize,cfirst,ccap,cb,co,n,cframes,cstack⟩,hc4,fun w' hm=> ?_⟩;have hc:=cells_of (hm.at hrow.out (by simp));simp[hc])
  clear hS5 hrow hc4
  try clear e0
  try clear e1
  try clear e2
  try clear e3
  try clear e4
  try clear e5
  try clear e6
  try clear e7
  try clear e8
  try clear e9
  go_loopw [71] (fun i wr=>∃k:Nat,k≤2∧i=.int .i64 k∧Mod [] W5 wr) (fun i _=>2-(intOf i).toNat)
  case atStart=>exact⟨0,by omega,rfl,Mod.refl _ _⟩
  case round=>
   obtain⟨k,hk,rfl,hm⟩:=hrel;have hmH:=Lib.hid hm;by_cases hlt:k<2
   ·obtain⟨⟨fn,fsize,ffirst,fcap,fb,fo,fr,fframes,fstack⟩,hfR,hcl⟩:=hfs.out k hlt;obtain⟨q0,q1,q2,q3,q4,q5,q6,q7,q8⟩:=hcl wr hm;simp only at q0 q1 q2 q3 q4 q5 q6 q7 q8;have hX:=Lib.hid ((Scene.empty wr).alloc (.cells #[.int .i64 fn,.int .i64 fsize,.int .u32 ffirst,.int .i64 fcap,.int .i64 fb,.int .i64 fo,.int .i64 fr,.int .i64 fframes,.int .i64 fstack] 81));have hfRH:=Lib.hid hfR;clear hm hcl hfR;by_cases hok:cfOk ⟨fn,fsize,ffirst,fcap,fb,fo,fr,fframes,fstack⟩
    ·have hnew:=Lib.hid (hnew_ok hX.out ⟨fn,fsize,ffirst,fcap,fb,fo,fr,fframes,fstack⟩ hok hfRH.out.1 hfRH.out.2);have hch:=Lib.hid fun w'=>check_ok ⟨fn,fsize,ffirst,fcap,fb,fo,fr,fframes,fstack⟩ w'
     have hrc:=Lib.hid fun w'=>rcheck_ok ⟨fn,fsize,ffirst,fcap,fb,fo,fr,fframes,fstack⟩ w'
     rw[cfE_ok hok]at hch hrc;unfold cfA at hnew hch hrc;simp only at hnew hch hrc;clear hok;go_wp2_with fail;refine hnew.out.mono ?_;rintro e w6 ⟨a,rfl,hS6⟩;have hm6:=Lib.hid (hmH.out.nil_then hS6.mod);have c6:=cells_of (hS6.block 1 rfl);have k1:=GW.cells (S:=[]) (hS6.block 1 rfl) (by simp);clear hnew hS6 q0 q1 q2 q3 q4 q5 q6 q7 q8;clear hX c6;go_wp2_with fail;refine wp_region_pure (by kernel_rfl) (by kernel_rfl) ?_;refine stage_quiet 1 (by kernel_rfl) ?_;simp only[tA,tB,tC,tD];(repeat go_big_quiet_step (fail));refine wpQuiet_nil ?_;refine stage_pure 34 #[.agg #[.int .i64 fn,.int .i64 fsize,.int .u32 ffirst,.int .i64 fcap,.int .i64 fb,.int .i64 fo,.int .i64 fr,.int .i64 fframes,.int .i64 fstack]] (.int .i64 0) rfl Tryz.call34 rfl rfl (fun w' _=>hch.out w') ?_;simp only[Act.put,sA,sB,sC];refine stage_quiet 1 (by kernel_rfl) ?_;simp only[tA,tB,tC,tD];(repeat go_big_quiet_step (fail));refine wpQuiet_nil ?_;refine stage_pure 35 #[.agg #[.int .i64 fn,.int .i64 fsize,.int .u32 ffirst,.int .i64 fcap,.int .i64 fb,.int .i64 fo,.int .i64 fr,.int .i64 fframes,.int .i64 fstack]] (.int .i64 0) rfl Tryz.call35 rfl rfl (fun w' _=>hrc.out w') ?_;simp only[Act.put,sA,sB,sC];refine stage_quiet 4 (by kernel_rfl) ?_;simp only[tA,tB,tC,tD];(repeat go_big_quiet_step (fail));refine wpQuiet_nil ?_;refine stage_pure 35 #[.agg #[.int .i64 fn,.int .i64 fsize,.int .u32 ffirst,.int .i64 fcap,.int .i64 fb,.int .i64 fo,.int .i64 fr,.int .i64 fframes,.int .i64 fstack]] (.int .i64 0) rfl Tryz.call35 rfl rfl (fun w' _=>hrc.out w') ?_;simp only[Act.put,sA,sB,sC];refine stage_quiet 9 (by kernel_rfl) ?_;simp only[tA,tB,tC,tD];(repeat go_big_quiet_step (fail));refine wpQuiet_nil ?_;refine stage_nil fun w7 hm7=> ?_
     have hm8:=Lib.hid (hm6.out.nil_then hm7);clear k1 hch hrc hm7 hm6;go_wp2_with fail;go_roundw
     case rel=>exact⟨k+1,by omega,by go_num,hm8.out⟩
     case measure=>simp[intOf];omega
    ·have hnew:=Lib.hid (hnew_bad ⟨fn,fsize,ffirst,fcap,fb,fo,fr,fframes,fstack⟩ hok);have hch:=Lib.hid fun w'=>check_ok ⟨fn,fsize,ffirst,fcap,fb,fo,fr,fframes,fstack⟩ w'
     have hrc:=Lib.hid fun w'=>rcheck_ok ⟨fn,fsize,ffirst,fcap,fb,fo,fr,fframes,fstack⟩ w'
     rw[cfE_bad hok]at hch hrc;unfold cfA at hnew hch hrc;simp only at hnew hch hrc;clear hok;go_wp2_with fail;refine(hnew.out _).mono ?_;rintro e w6 ⟨rfl,hm'⟩;have hS6:=hX.out.then hm';have hm6:=Lib.hid (hmH.out.nil_then hS6.mod);have c6:=cells_of (hS6.block 0 rfl);have k1:=GW.cells (S:=[]) (hS6.block 0 rfl) (by simp);clear hnew hS6 hm' q0 q1 q2 q3 q4 q5 q6 q7 q8;clear hX c6;go_wp2_with fail;refine wp_region_pure (by kernel_rfl) (by kernel_rfl) ?_;refine stage_quiet 1 (by kernel_rfl) ?_;simp only[tA,tB,tC,tD];(repeat go_big_quiet_step (fail));refine wpQuiet_nil ?_;refine stage_pure 34 #[.agg #[.int .i64 fn,.int .i64 fsize,.int .u32 ffirst,.int .i64 fcap,.int .i64 fb,.int .i64 fo,.int .i64 fr,.int .i64 fframes,.int .i64 fstack]] (.int .i64 1) rfl Tryz.call34 rfl rfl (fun w' _=>hch.out w') ?_;simp only[Act.put,sA,sB,sC];refine stage_quiet 1 (by kernel_rfl) ?_;simp only[tA,tB,tC,tD];(repeat go_big_quiet_step (fail));refine wpQuiet_nil ?_;refine stage_pure 35 #[.agg #[.int .i64 fn,.int .i64 fsize,.int .u32 ffirst,.int .i64 fcap,.int .i64 fb,.int .i64 fo,.int .i64 fr,.int .i64 fframes,.int .i64 fstack]] (.int .i64 1) rfl Tryz.call35 rfl rfl (fun w' _=>hrc.out w') ?_;simp only[Act.put,sA,sB,sC];refine stage_quiet 4 (by kernel_rfl) ?_;simp only[tA,tB,tC,tD];(repeat go_big_quiet_step (fail));refine wpQuiet_nil ?_;refine stage_pure 35 #[.agg #[.int .i64 fn,.int .i64 fsize,.int .u32 ffirst,.int .i64 fcap,.int .i64 fb,.int .i64 fo,.int .i64 fr,.int .i64 fframes,.int .i64 fstack]] (.int .i64 1) rfl Tryz.call35 rfl rfl (fun w' _=>hrc.out w') ?_;simp only[Act.put,sA,sB,sC];refine stage_quiet 9 (by kernel_rfl) ?_;simp only[tA,tB,tC,tD];(repeat go_big_quiet_step (fail));refine wpQuiet_nil ?_;refine stage_nil fun w7 hm7=> ?_
     have hm8:=Lib.hid (hm6.out.nil_then hm7);clear k1 hch hrc hm7 hm6;go_wp2_with fail;go_roundw
     case rel=>exact⟨k+1,by omega,by go_num,hm8.out⟩
     case measure=>simp[intOf];omega
   ·obtain rfl:k=2:=by omega
    clear hm hfs;go_wp2_with fail;refine(awake_ok _).mono ?_;rintro e w7 ⟨rfl,hm7⟩;have hm8:=Lib.hid (hmW.out.nil_then (hmH.out.nil_then hm7));clear hm7;go_wp2_with fail;go_ret;exact⟨rfl,hm8.out⟩
 have e6:(what%12==6)=false:=by simp[m6]
 clear m6;by_cases m7:what%12=7
 ·have e7:(what%12==7)=true:=by simp[m7]
  clear m7;have hS4:=Lib.hid (hS3.out.blockSet 0 rfl 7 (.int .i64 (n.tmod 300)));have hc4:CfR ⟨cn,csize,cfirst,ccap,cb,co,cr,(n.tmod 300),cstack⟩:=by unfold CfR;have:=hcmH.out;unfold CfMade at this;simp only at this⊢;omega
  have c1:=cells_of (hS4.out.block 0 rfl);have c2:=cells_of (hS4.out.block 2 rfl);go_wp2_with fail;have hS5:=(hS4.out.alloc (.cells #[.int .i64 rn,.int .i64 rsize,.int .u32 rfirst,.int .i64 rcap,.int .i64 rb,.int .i64 ro,.int .i64 rr,.int .i64 rframes,.int .i64 rstack,.int .i64 cn,.int .i64 csize,.int .u32 cfirst,.int .i64 ccap,.int .i64 cb,.int .i64 co,.int .i64 cr,.int .i64 (n.tmod 300),.int .i64 cstack] 81));rw[show(W3.setCell ⟨w2.heap.size,7,none⟩ (.int .i64 (n.tmod 300))).heap.size=W3.heap.size by simp]at hS5;have hS5:=Lib.hid hS5;have hrow:=Lib.hid (hS5.out.block 0 rfl);have hmW:=Lib.hid hS5.out.mod;clear c0 f0 c1 c2 hS4 hS3 hS2;generalize(W3.setCell ⟨w2.heap.size,7,none⟩ (.int .i64 (n.tmod 300))).alloc (.cells #[.int .i64 rn,.int .i64 rsize,.int .u32 rfirst,.int .i64 rcap,.int .i64 rb,.int .i64 ro,.int .i64 rr,.int .i64 rframes,.int .i64 rstack,.int .i64 cn,.int .i64 csize,.int .u32 cfirst,.int .i64 ccap,.int .i64 cb,.int .i64 co,.int .i64 cr,.int .i64 (n.tmod 300),.int .i64 cstack] 81)=W5 at*;generalize W3.heap.size=bR at*;have hfs:=Lib.hid (show∀k:Nat,k<2→∃f:Cf,CfR f∧∀w',Mod [] W5 w'→w'.cell? ⟨bR,k*9,none⟩=some (.int .i64 f.n)∧w'.cell? ⟨bR,k*9+1,none⟩=some (.int .i64 f.size)∧w'.cell? ⟨bR,k*9+2,none⟩=some (.int .u32 f.first)∧w'.cell? ⟨bR,k*9+3,none⟩=some (.int .i64 f.cap)∧w'.cell? ⟨bR,k*9+4,none⟩=some (.int .i64 f.b)∧w'.cell? ⟨bR,k*9+5,none⟩=some (.int .i64 f.o)∧w'.cell? ⟨bR,k*9+6,none⟩=some (.int .i64 f.r)∧w'.cell? ⟨bR,k*9+7,none⟩=some (.int .i64 f.frames)∧w'.cell? ⟨bR,k*9+8,none⟩=some (.int .i64 f.stack)from fun k hk=>by
   have hc:=cells_of hrow.out;by_cases h:k=0
   ·subst h;refine⟨_,hfH.out,fun w' hm=> ?_⟩;have hc:=cells_of (hm.at hrow.out (by simp));simp[hc]
   ·obtain rfl:k=1:=by omega
    refine⟨⟨cn,csize,cfirst,ccap,cb,co,cr,(n.tmod 300),cstack⟩,hc4,fun w' hm=> ?_⟩;have hc:=cells_of (hm.at hrow.out (by simp));simp[hc])
  clear hS5 hrow hc4
  try clear e0
  try clear e1
  try clear e2
  try clear e3
  try clear e4
  try clear e5
  try clear e6
  try clear e7
  try clear e8
  try clear e9
  go_loopw [71] (fun i wr=>∃k:Nat,k≤2∧i=.int .i64 k∧Mod [] W5 wr) (fun i _=>2-(intOf i).toNat)
  case atStart=>exact⟨0,by omega,rfl,Mod.refl _ _⟩
  case round=>
   obtain⟨k,hk,rfl,hm⟩:=hrel;have hmH:=Lib.hid hm;by_cases hlt:k<2
   ·obtain⟨⟨fn,fsize,ffirst,fcap,fb,fo,fr,fframes,fstack⟩,hfR,hcl⟩:=hfs.out k hlt;obtain⟨q0,q1,q2,q3,q4,q5,q6,q7,q8⟩:=hcl wr hm;simp only at q0 q1 q2 q3 q4 q5 q6 q7 q8;have hX:=Lib.hid ((Scene.empty wr).alloc (.cells #[.int .i64 fn,.int .i64 fsize,.int .u32 ffirst,.int .i64 fcap,.int .i64 fb,.int .i64 fo,.int .i64 fr,.int .i64 fframes,.int .i64 fstack] 81));have hfRH:=Lib.hid hfR;clear hm hcl hfR;by_cases hok:cfOk ⟨fn,fsize,ffirst,fcap,fb,fo,fr,fframes,fstack⟩
    ·have hnew:=Lib.hid (hnew_ok hX.out ⟨fn,fsize,ffirst,fcap,fb,fo,fr,fframes,fstack⟩ hok hfRH.out.1 hfRH.out.2);have hch:=Lib.hid fun w'=>check_ok ⟨fn,fsize,ffirst,fcap,fb,fo,fr,fframes,fstack⟩ w'
     have hrc:=Lib.hid fun w'=>rcheck_ok ⟨fn,fsize,ffirst,fcap,fb,fo,fr,fframes,fstack⟩ w'
     rw[cfE_ok hok]at hch hrc;unfold cfA at hnew hch hrc;simp only at hnew hch hrc;clear hok;go_wp2_with fail;refine hnew.out.mono ?_;rintro e w6 ⟨a,rfl,hS6⟩;have hm6:=Lib.hid (hmH.out.nil_then hS6.mod);have c6:=cells_of (hS6.block 1 rfl);have k1:=GW.cells (S:=[]) (hS6.block 1 rfl) (by simp);clear hnew hS6 q0 q1 q2 q3 q4 q5 q6 q7 q8;clear hX c6;go_wp2_with fail;refine wp_region_pure (by kernel_rfl) (by kernel_rfl) ?_;refine stage_quiet 1 (by kernel_rfl) ?_;simp only[tA,tB,tC,tD];(repeat go_big_quiet_step (fail));refine wpQuiet_nil ?_;refine stage_pure 34 #[.agg #[.int .i64 fn,.int .i64 fsize,.int .u32 ffirst,.int .i64 fcap,.int .i64 fb,.int .i64 fo,.int .i64 fr,.int .i64 fframes,.int .i64 fstack]] (.int .i64 0) rfl Tryz.call34 rfl rfl (fun w' _=>hch.out w') ?_;simp only[Act.put,sA,sB,sC];refine stage_quiet 1 (by kernel_rfl) ?_;simp only[tA,tB,tC,tD];(repeat go_big_quiet_step (fail));refine wpQuiet_nil ?_;refine stage_pure 35 #[.agg #[.int .i64 fn,.int .i64 fsize,.int .u32 ffirst,.int .i64 fcap,.int .i64 fb,.int .i64 fo,.int .i64 fr,.int .i64 fframes,.int .i64 fstack]] (.int .i64 0) rfl Tryz.call35 rfl rfl (fun w' _=>hrc.out w') ?_;simp only[Act.put,sA,sB,sC];refine stage_quiet 4 (by kernel_rfl) ?_;simp only[tA,tB,tC,tD];(repeat go_big_quiet_step (fail));refine wpQuiet_nil ?_;refine stage_pure 35 #[.agg #[.int .i64 fn,.int .i64 fsize,.int .u32 ffirst,.int .i64 fcap,.int .i64 fb,.int .i64 fo,.int .i64 fr,.int .i64 fframes,.int .i64 fstack]] (.int .i64 0) rfl Tryz.call35 rfl rfl (fun w' _=>hrc.out w') ?_;simp only[Act.put,sA,sB,sC];refine stage_quiet 9 (by kernel_rfl) ?_;simp only[tA,tB,tC,tD];(repeat go_big_quiet_step (fail));refine wpQuiet_nil ?_;refine stage_nil fun w7 hm7=> ?_
     have hm8:=Lib.hid (hm6.out.nil_then hm7);clear k1 hch hrc hm7 hm6;go_wp2_with fail;go_roundw
     case rel=>exact⟨k+1,by omega,by go_num,hm8.out⟩
     case measure=>simp[intOf];omega
    ·have hnew:=Lib.hid (hnew_bad ⟨fn,fsize,ffirst,fcap,fb,fo,fr,fframes,fstack⟩ hok);have hch:=Lib.hid fun w'=>check_ok ⟨fn,fsize,ffirst,fcap,fb,fo,fr,fframes,fstack⟩ w'
     have hrc:=Lib.hid fun w'=>rcheck_ok ⟨fn,fsize,ffirst,fcap,fb,fo,fr,fframes,fstack⟩ w'
     rw[cfE_bad hok]at hch hrc;unfold cfA at hnew hch hrc;simp only at hnew hch hrc;clear hok;go_wp2_with fail;refine(hnew.out _).mono ?_;rintro e w6 ⟨rfl,hm'⟩;have hS6:=hX.out.then hm';have hm6:=Lib.hid (hmH.out.nil_then hS6.mod);have c6:=cells_of (hS6.block 0 rfl);have k1:=GW.cells (S:=[]) (hS6.block 0 rfl) (by simp);clear hnew hS6 hm' q0 q1 q2 q3 q4 q5 q6 q7 q8;clear hX c6;go_wp2_with fail;refine wp_region_pure (by kernel_rfl) (by kernel_rfl) ?_;refine stage_quiet 1 (by kernel_rfl) ?_;simp only[tA,tB,tC,tD];(repeat go_big_quiet_step (fail));refine wpQuiet_nil ?_;refine stage_pure 34 #[.agg #[.int .i64 fn,.int .i64 fsize,.int .u32 ffirst,.int .i64 fcap,.int .i64 fb,.int .i64 fo,.int .i64 fr,.int .i64 fframes,.int .i64 fstack]] (.int .i64 1) rfl Tryz.call34 rfl rfl (fun w' _=>hch.out w') ?_;simp only[Act.put,sA,sB,sC];refine stage_quiet 1 (by kernel_rfl) ?_;simp only[tA,tB,tC,tD];(repeat go_big_quiet_step (fail));refine wpQuiet_nil ?_;refine stage_pure 35 #[.agg #[.int .i64 fn,.int .i64 fsize,.int .u32 ffirst,.int .i64 fcap,.int .i64 fb,.int .i64 fo,.int .i64 fr,.int .i64 fframes,.int .i64 fstack]] (.int .i64 1) rfl Tryz.call35 rfl rfl (fun w' _=>hrc.out w') ?_;simp only[Act.put,sA,sB,sC];refine stage_quiet 4 (by kernel_rfl) ?_;simp only[tA,tB,tC,tD];(repeat go_big_quiet_step (fail));refine wpQuiet_nil ?_;refine stage_pure 35 #[.agg #[.int .i64 fn,.int .i64 fsize,.int .u32 ffirst,.int .i64 fcap,.int .i64 fb,.int .i64 fo,.int .i64 fr,.int .i64 fframes,.int .i64 fstack]] (.int .i64 1) rfl Tryz.call35 rfl rfl (fun w' _=>hrc.out w') ?_;simp only[Act.put,sA,sB,sC];refine stage_quiet 9 (by kernel_rfl) ?_;simp only[tA,tB,tC,tD];(repeat go_big_quiet_step (fail));refine wpQuiet_nil ?_;refine stage_nil fun w7 hm7=> ?_
     have hm8:=Lib.hid (hm6.out.nil_then hm7);clear k1 hch hrc hm7 hm6;go_wp2_with fail;go_roundw
     case rel=>exact⟨k+1,by omega,by go_num,hm8.out⟩
     case measure=>simp[intOf];omega
   ·obtain rfl:k=2:=by omega
    clear hm hfs;go_wp2_with fail;refine(awake_ok _).mono ?_;rintro e w7 ⟨rfl,hm7⟩;have hm8:=Lib.hid (hmW.out.nil_then (hmH.out.nil_then hm7));clear hm7;go_wp2_with fail;go_ret;exact⟨rfl,hm8.out⟩
 have e7:(what%12==7)=false:=by simp[m7]
 clear m7;by_cases m8:what%12=8
 ·have e8:(what%12==8)=true:=by simp[m8]
  clear m8;have hS4:=Lib.hid (hS3.out.blockSet 0 rfl 8 (.int .i64 (wrap64 (16384+n.tmod 3))));have hc4:CfR ⟨cn,csize,cfirst,ccap,cb,co,cr,cframes,(wrap64 (16384+n.tmod 3))⟩:=by unfold CfR;have:=hcmH.out;unfold CfMade at this;simp only at this⊢;omega
  have c1:=cells_of (hS4.out.block 0 rfl);have c2:=cells_of (hS4.out.block 2 rfl);go_wp2_with fail;have hS5:=(hS4.out.alloc (.cells #[.int .i64 rn,.int .i64 rsize,.int .u32 rfirst,.int .i64 rcap,.int .i64 rb,.int .i64 ro,.int .i64 rr,.int .i64 rframes,.int .i64 rstack,.int .i64 cn,.int .i64 csize,.int .u32 cfirst,.int .i64 ccap,.int .i64 cb,.int .i64 co,.int .i64 cr,.int .i64 cframes,.int .i64 (wrap64 (16384+n.tmod 3))] 81));rw[show(W3.setCell ⟨w2.heap.size,8,none⟩ (.int .i64 (wrap64 (16384+n.tmod 3)))).heap.size=W3.heap.size by simp]at hS5;have hS5:=Lib.hid hS5;have hrow:=Lib.hid (hS5.out.block 0 rfl);have hmW:=Lib.hid hS5.out.mod;clear c0 f0 c1 c2 hS4 hS3 hS2;generalize(W3.setCell ⟨w2.heap.size,8,none⟩ (.int .i64 (wrap64 (16384+n.tmod 3)))).alloc (.cells #[.int .i64 rn,.int .i64 rsize,.int .u32 rfirst,.int .i64 rcap,.int .i64 rb,.int .i64 ro,.int .i64 rr,.int .i64 rframes,.int .i64 rstack,.int .i64 cn,.int .i64 csize,.int .u32 cfirst,.int .i64 ccap,.int .i64 cb,.int .i64 co,.int .i64 cr,.int .i64 cframes,.int .i64 (wrap64 (16384+n.tmod 3))] 81)=W5 at*;generalize W3.heap.size=bR at*;have hfs:=Lib.hid (show∀k:Nat,k<2→∃f:Cf,CfR f∧∀w',Mod [] W5 w'→w'.cell? ⟨bR,k*9,none⟩=some (.int .i64 f.n)∧w'.cell? ⟨bR,k*9+1,none⟩=some (.int .i64 f.size)∧w'.cell? ⟨bR,k*9+2,none⟩=some (.int .u32 f.first)∧w'.cell? ⟨bR,k*9+3,none⟩=some (.int .i64 f.cap)∧w'.cell? ⟨bR,k*9+4,none⟩=some (.int .i64 f.b)∧w'.cell? ⟨bR,k*9+5,none⟩=some (.int .i64 f.o)∧w'.cell? ⟨bR,k*9+6,none⟩=some (.int .i64 f.r)∧w'.cell? ⟨bR,k*9+7,none⟩=some (.int .i64 f.frames)∧w'.cell? ⟨bR,k*9+8,none⟩=some (.int .i64 f.stack)from fun k hk=>by
   have hc:=cells_of hrow.out;by_cases h:k=0
   ·subst h;refine⟨_,hfH.out,fun w' hm=> ?_⟩;have hc:=cells_of (hm.at hrow.out (by simp));simp[hc]
   ·obtain rfl:k=1:=by omega
    refine⟨⟨cn,csize,cfirst,ccap,cb,co,cr,cframes,(wrap64 (16384+n.tmod 3))⟩,hc4,fun w' hm=> ?_⟩;have hc:=cells_of (hm.at hrow.out (by simp));simp[hc])
  clear hS5 hrow hc4
  try clear e0
  try clear e1
  try clear e2
  try clear e3
  try clear e4
  try clear e5
  try clear e6
  try clear e7
  try clear e8
  try clear e9
  go_loopw [71] (fun i wr=>∃k:Nat,k≤2∧i=.int .i64 k∧Mod [] W5 wr) (fun i _=>2-(intOf i).toNat)
  case atStart=>exact⟨0,by omega,rfl,Mod.refl _ _⟩
  case round=>
   obtain⟨k,hk,rfl,hm⟩:=hrel;have hmH:=Lib.hid hm;by_cases hlt:k<2
   ·obtain⟨⟨fn,fsize,ffirst,fcap,fb,fo,fr,fframes,fstack⟩,hfR,hcl⟩:=hfs.out k hlt;obtain⟨q0,q1,q2,q3,q4,q5,q6,q7,q8⟩:=hcl wr hm;simp only at q0 q1 q2 q3 q4 q5 q6 q7 q8;have hX:=Lib.hid ((Scene.empty wr).alloc (.cells #[.int .i64 fn,.int .i64 fsize,.int .u32 ffirst,.int .i64 fcap,.int .i64 fb,.int .i64 fo,.int .i64 fr,.int .i64 fframes,.int .i64 fstack] 81));have hfRH:=Lib.hid hfR;clear hm hcl hfR;by_cases hok:cfOk ⟨fn,fsize,ffirst,fcap,fb,fo,fr,fframes,fstack⟩
    ·have hnew:=Lib.hid (hnew_ok hX.out ⟨fn,fsize,ffirst,fcap,fb,fo,fr,fframes,fstack⟩ hok hfRH.out.1 hfRH.out.2);have hch:=Lib.hid fun w'=>check_ok ⟨fn,fsize,ffirst,fcap,fb,fo,fr,fframes,fstack⟩ w'
     have hrc:=Lib.hid fun w'=>rcheck_ok ⟨fn,fsize,ffirst,fcap,fb,fo,fr,fframes,fstack⟩ w'
     rw[cfE_ok hok]at hch hrc;unfold cfA at hnew hch hrc;simp only at hnew hch hrc;clear hok;go_wp2_with fail;refine hnew.out.mono ?_;rintro e w6 ⟨a,rfl,hS6⟩;have hm6:=Lib.hid (hmH.out.nil_then hS6.mod);have c6:=cells_of (hS6.block 1 rfl);have k1:=GW.cells (S:=[]) (hS6.block 1 rfl) (by simp);clear hnew hS6 q0 q1 q2 q3 q4 q5 q6 q7 q8;clear hX c6;go_wp2_with fail;refine wp_region_pure (by kernel_rfl) (by kernel_rfl) ?_;refine stage_quiet 1 (by kernel_rfl) ?_;simp only[tA,tB,tC,tD];(repeat go_big_quiet_step (fail));refine wpQuiet_nil ?_;refine stage_pure 34 #[.agg #[.int .i64 fn,.int .i64 fsize,.int .u32 ffirst,.int .i64 fcap,.int .i64 fb,.int .i64 fo,.int .i64 fr,.int .i64 fframes,.int .i64 fstack]] (.int .i64 0) rfl Tryz.call34 rfl rfl (fun w' _=>hch.out w') ?_;simp only[Act.put,sA,sB,sC];refine stage_quiet 1 (by kernel_rfl) ?_;simp only[tA,tB,tC,tD];(repeat go_big_quiet_step (fail));refine wpQuiet_nil ?_;refine stage_pure 35 #[.agg #[.int .i64 fn,.int .i64 fsize,.int .u32 ffirst,.int .i64 fcap,.int .i64 fb,.int .i64 fo,.int .i64 fr,.int .i64 fframes,.int .i64 fstack]] (.int .i64 0) rfl Tryz.call35 rfl rfl (fun w' _=>hrc.out w') ?_;simp only[Act.put,sA,sB,sC];refine stage_quiet 4 (by kernel_rfl) ?_;simp only[tA,tB,tC,tD];(repeat go_big_quiet_step (fail));refine wpQuiet_nil ?_;refine stage_pure 35 #[.agg #[.int .i64 fn,.int .i64 fsize,.int .u32 ffirst,.int .i64 fcap,.int .i64 fb,.int .i64 fo,.int .i64 fr,.int .i64 fframes,.int .i64 fstack]] (.int .i64 0) rfl Tryz.call35 rfl rfl (fun w' _=>hrc.out w') ?_;simp only[Act.put,sA,sB,sC];refine stage_quiet 9 (by kernel_rfl) ?_;simp only[tA,tB,tC,tD];(repeat go_big_quiet_step (fail));refine wpQuiet_nil ?_;refine stage_nil fun w7 hm7=> ?_
     have hm8:=Lib.hid (hm6.out.nil_then hm7);clear k1 hch hrc hm7 hm6;go_wp2_with fail;go_roundw
     case rel=>exact⟨k+1,by omega,by go_num,hm8.out⟩
     case measure=>simp[intOf];omega
    ·have hnew:=Lib.hid (hnew_bad ⟨fn,fsize,ffirst,fcap,fb,fo,fr,fframes,fstack⟩ hok);have hch:=Lib.hid fun w'=>check_ok ⟨fn,fsize,ffirst,fcap,fb,fo,fr,fframes,fstack⟩ w'
     have hrc:=Lib.hid fun w'=>rcheck_ok ⟨fn,fsize,ffirst,fcap,fb,fo,fr,fframes,fstack⟩ w'
     rw[cfE_bad hok]at hch hrc;unfold cfA at hnew hch hrc;simp only at hnew hch hrc;clear hok;go_wp2_with fail;refine(hnew.out _).mono ?_;rintro e w6 ⟨rfl,hm'⟩;have hS6:=hX.out.then hm';have hm6:=Lib.hid (hmH.out.nil_then hS6.mod);have c6:=cells_of (hS6.block 0 rfl);have k1:=GW.cells (S:=[]) (hS6.block 0 rfl) (by simp);clear hnew hS6 hm' q0 q1 q2 q3 q4 q5 q6 q7 q8;clear hX c6;go_wp2_with fail;refine wp_region_pure (by kernel_rfl) (by kernel_rfl) ?_;refine stage_quiet 1 (by kernel_rfl) ?_;simp only[tA,tB,tC,tD];(repeat go_big_quiet_step (fail));refine wpQuiet_nil ?_;refine stage_pure 34 #[.agg #[.int .i64 fn,.int .i64 fsize,.int .u32 ffirst,.int .i64 fcap,.int .i64 fb,.int .i64 fo,.int .i64 fr,.int .i64 fframes,.int .i64 fstack]] (.int .i64 1) rfl Tryz.call34 rfl rfl (fun w' _=>hch.out w') ?_;simp only[Act.put,sA,sB,sC];refine stage_quiet 1 (by kernel_rfl) ?_;simp only[tA,tB,tC,tD];(repeat go_big_quiet_step (fail));refine wpQuiet_nil ?_;refine stage_pure 35 #[.agg #[.int .i64 fn,.int .i64 fsize,.int .u32 ffirst,.int .i64 fcap,.int .i64 fb,.int .i64 fo,.int .i64 fr,.int .i64 fframes,.int .i64 fstack]] (.int .i64 1) rfl Tryz.call35 rfl rfl (fun w' _=>hrc.out w') ?_;simp only[Act.put,sA,sB,sC];refine stage_quiet 4 (by kernel_rfl) ?_;simp only[tA,tB,tC,tD];(repeat go_big_quiet_step (fail));refine wpQuiet_nil ?_;refine stage_pure 35 #[.agg #[.int .i64 fn,.int .i64 fsize,.int .u32 ffirst,.int .i64 fcap,.int .i64 fb,.int .i64 fo,.int .i64 fr,.int .i64 fframes,.int .i64 fstack]] (.int .i64 1) rfl Tryz.call35 rfl rfl (fun w' _=>hrc.out w') ?_;simp only[Act.put,sA,sB,sC];refine stage_quiet 9 (by kernel_rfl) ?_;simp only[tA,tB,tC,tD];(repeat go_big_quiet_step (fail));refine wpQuiet_nil ?_;refine stage_nil fun w7 hm7=> ?_
     have hm8:=Lib.hid (hm6.out.nil_then hm7);clear k1 hch hrc hm7 hm6;go_wp2_with fail;go_roundw
     case rel=>exact⟨k+1,by omega,by go_num,hm8.out⟩
     case measure=>simp[intOf];omega
   ·obtain rfl:k=2:=by omega
    clear hm hfs;go_wp2_with fail;refine(awake_ok _).mono ?_;rintro e w7 ⟨rfl,hm7⟩;have hm8:=Lib.hid (hmW.out.nil_then (hmH.out.nil_then hm7));clear hm7;go_wp2_with fail;go_ret;exact⟨rfl,hm8.out⟩
 have e8:(what%12==8)=false:=by simp[m8]
 clear m8;by_cases m9:what%12=9
 ·have e9:(what%12==9)=true:=by simp[m9]
  clear m9;have hS4:=Lib.hid (hS3.out.blockSet 0 rfl 0 (.int .i64 (-1)));have hc4:CfR ⟨(-1),csize,cfirst,ccap,cb,co,cr,cframes,cstack⟩:=by unfold CfR;have:=hcmH.out;unfold CfMade at this;simp only at this⊢;omega
  have c1:=cells_of (hS4.out.block 0 rfl);have c2:=cells_of (hS4.out.block 2 rfl);go_wp2_with fail;have hS5:=(hS4.out.alloc (.cells #[.int .i64 rn,.int .i64 rsize,.int .u32 rfirst,.int .i64 rcap,.int .i64 rb,.int .i64 ro,.int .i64 rr,.int .i64 rframes,.int .i64 rstack,.int .i64 (-1),.int .i64 csize,.int .u32 cfirst,.int .i64 ccap,.int .i64 cb,.int .i64 co,.int .i64 cr,.int .i64 cframes,.int .i64 cstack] 81));rw[show(W3.setCell ⟨w2.heap.size,0,none⟩ (.int .i64 (-1))).heap.size=W3.heap.size by simp]at hS5;have hS5:=Lib.hid hS5;have hrow:=Lib.hid (hS5.out.block 0 rfl);have hmW:=Lib.hid hS5.out.mod;clear c0 f0 c1 c2 hS4 hS3 hS2;generalize(W3.setCell ⟨w2.heap.size,0,none⟩ (.int .i64 (-1))).alloc (.cells #[.int .i64 rn,.int .i64 rsize,.int .u32 rfirst,.int .i64 rcap,.int .i64 rb,.int .i64 ro,.int .i64 rr,.int .i64 rframes,.int .i64 rstack,.int .i64 (-1),.int .i64 csize,.int .u32 cfirst,.int .i64 ccap,.int .i64 cb,.int .i64 co,.int .i64 cr,.int .i64 cframes,.int .i64 cstack] 81)=W5 at*;generalize W3.heap.size=bR at*;have hfs:=Lib.hid (show∀k:Nat,k<2→∃f:Cf,CfR f∧∀w',Mod [] W5 w'→w'.cell? ⟨bR,k*9,none⟩=some (.int .i64 f.n)∧w'.cell? ⟨bR,k*9+1,none⟩=some (.int .i64 f.size)∧w'.cell? ⟨bR,k*9+2,none⟩=some (.int .u32 f.first)∧w'.cell? ⟨bR,k*9+3,none⟩=some (.int .i64 f.cap)∧w'.cell? ⟨bR,k*9+4,none⟩=some (.int .i64 f.b)∧w'.cell? ⟨bR,k*9+5,none⟩=some (.int .i64 f.o)∧w'.cell? ⟨bR,k*9+6,none⟩=some (.int .i64 f.r)∧w'.cell? ⟨bR,k*9+7,none⟩=some (.int .i64 f.frames)∧w'.cell? ⟨bR,k*9+8,none⟩=some (.int .i64 f.stack)from fun k hk=>by
   have hc:=cells_of hrow.out;by_cases h:k=0
   ·subst h;refine⟨_,hfH.out,fun w' hm=> ?_⟩;have hc:=cells_of (hm.at hrow.out (by simp));simp[hc]
   ·obtain rfl:k=1:=by omega
    refine⟨⟨(-1),csize,cfirst,ccap,cb,co,cr,cframes,cstack⟩,hc4,fun w' hm=> ?_⟩;have hc:=cells_of (hm.at hrow.out (by simp));simp[hc])
  clear hS5 hrow hc4
  try clear e0
  try clear e1
  try clear e2
  try clear e3
  try clear e4
  try clear e5
  try clear e6
  try clear e7
  try clear e8
  try clear e9
  go_loopw [71] (fun i wr=>∃k:Nat,k≤2∧i=.int .i64 k∧Mod [] W5 wr) (fun i _=>2-(intOf i).toNat)
  case atStart=>exact⟨0,by omega,rfl,Mod.refl _ _⟩
  case round=>
   obtain⟨k,hk,rfl,hm⟩:=hrel;have hmH:=Lib.hid hm;by_cases hlt:k<2
   ·obtain⟨⟨fn,fsize,ffirst,fcap,fb,fo,fr,fframes,fstack⟩,hfR,hcl⟩:=hfs.out k hlt;obtain⟨q0,q1,q2,q3,q4,q5,q6,q7,q8⟩:=hcl wr hm;simp only at q0 q1 q2 q3 q4 q5 q6 q7 q8;have hX:=Lib.hid ((Scene.empty wr).alloc (.cells #[.int .i64 fn,.int .i64 fsize,.int .u32 ffirst,.int .i64 fcap,.int .i64 fb,.int .i64 fo,.int .i64 fr,.int .i64 fframes,.int .i64 fstack] 81));have hfRH:=Lib.hid hfR;clear hm hcl hfR;by_cases hok:cfOk ⟨fn,fsize,ffirst,fcap,fb,fo,fr,fframes,fstack⟩
    ·have hnew:=Lib.hid (hnew_ok hX.out ⟨fn,fsize,ffirst,fcap,fb,fo,fr,fframes,fstack⟩ hok hfRH.out.1 hfRH.out.2);have hch:=Lib.hid fun w'=>check_ok ⟨fn,fsize,ffirst,fcap,fb,fo,fr,fframes,fstack⟩ w'
     have hrc:=Lib.hid fun w'=>rcheck_ok ⟨fn,fsize,ffirst,fcap,fb,fo,fr,fframes,fstack⟩ w'
     rw[cfE_ok hok]at hch hrc;unfold cfA at hnew hch hrc;simp only at hnew hch hrc;clear hok;go_wp2_with fail;refine hnew.out.mono ?_;rintro e w6 ⟨a,rfl,hS6⟩;have hm6:=Lib.hid (hmH.out.nil_then hS6.mod);have c6:=cells_of (hS6.block 1 rfl);have k1:=GW.cells (S:=[]) (hS6.block 1 rfl) (by simp);clear hnew hS6 q0 q1 q2 q3 q4 q5 q6 q7 q8;clear hX c6;go_wp2_with fail;refine wp_region_pure (by kernel_rfl) (by kernel_rfl) ?_;refine stage_quiet 1 (by kernel_rfl) ?_;simp only[tA,tB,tC,tD];(repeat go_big_quiet_step (fail));refine wpQuiet_nil ?_;refine stage_pure 34 #[.agg #[.int .i64 fn,.int .i64 fsize,.int .u32 ffirst,.int .i64 fcap,.int .i64 fb,.int .i64 fo,.int .i64 fr,.int .i64 fframes,.int .i64 fstack]] (.int .i64 0) rfl Tryz.call34 rfl rfl (fun w' _=>hch.out w') ?_;simp only[Act.put,sA,sB,sC];refine stage_quiet 1 (by kernel_rfl) ?_;simp only[tA,tB,tC,tD];(repeat go_big_quiet_step (fail));refine wpQuiet_nil ?_;refine stage_pure 35 #[.agg #[.int .i64 fn,.int .i64 fsize,.int .u32 ffirst,.int .i64 fcap,.int .i64 fb,.int .i64 fo,.int .i64 fr,.int .i64 fframes,.int .i64 fstack]] (.int .i64 0) rfl Tryz.call35 rfl rfl (fun w' _=>hrc.out w') ?_;simp only[Act.put,sA,sB,sC];refine stage_quiet 4 (by kernel_rfl) ?_;simp only[tA,tB,tC,tD];(repeat go_big_quiet_step (fail));refine wpQuiet_nil ?_;refine stage_pure 35 #[.agg #[.int .i64 fn,.int .i64 fsize,.int .u32 ffirst,.int .i64 fcap,.int .i64 fb,.int .i64 fo,.int .i64 fr,.int .i64 fframes,.int .i64 fstack]] (.int .i64 0) rfl Tryz.call35 rfl rfl (fun w' _=>hrc.out w') ?_;simp only[Act.put,sA,sB,sC];refine stage_quiet 9 (by kernel_rfl) ?_;simp only[tA,tB,tC,tD];(repeat go_big_quiet_step (fail));refine wpQuiet_nil ?_;refine stage_nil fun w7 hm7=> ?_
     have hm8:=Lib.hid (hm6.out.nil_then hm7);clear k1 hch hrc hm7 hm6;go_wp2_with fail;go_roundw
     case rel=>exact⟨k+1,by omega,by go_num,hm8.out⟩
     case measure=>simp[intOf];omega
    ·have hnew:=Lib.hid (hnew_bad ⟨fn,fsize,ffirst,fcap,fb,fo,fr,fframes,fstack⟩ hok);have hch:=Lib.hid fun w'=>check_ok ⟨fn,fsize,ffirst,fcap,fb,fo,fr,fframes,fstack⟩ w'
     have hrc:=Lib.hid fun w'=>rcheck_ok ⟨fn,fsize,ffirst,fcap,fb,fo,fr,fframes,fstack⟩ w'
     rw[cfE_bad hok]at hch hrc;unfold cfA at hnew hch hrc;simp only at hnew hch hrc;clear hok;go_wp2_with fail;refine(hnew.out _).mono ?_;rintro e w6 ⟨rfl,hm'⟩;have hS6:=hX.out.then hm';have hm6:=Lib.hid (hmH.out.nil_then hS6.mod);have c6:=cells_of (hS6.block 0 rfl);have k1:=GW.cells (S:=[]) (hS6.block 0 rfl) (by simp);clear hnew hS6 hm' q0 q1 q2 q3 q4 q5 q6 q7 q8;clear hX c6;go_wp2_with fail;refine wp_region_pure (by kernel_rfl) (by kernel_rfl) ?_;refine stage_quiet 1 (by kernel_rfl) ?_;simp only[tA,tB,tC,tD];(repeat go_big_quiet_step (fail));refine wpQuiet_nil ?_;refine stage_pure 34 #[.agg #[.int .i64 fn,.int .i64 fsize,.int .u32 ffirst,.int .i64 fcap,.int .i64 fb,.int .i64 fo,.int .i64 fr,.int .i64 fframes,.int .i64 fstack]] (.int .i64 1) rfl Tryz.call34 rfl rfl (fun w' _=>hch.out w') ?_;simp only[Act.put,sA,sB,sC];refine stage_quiet 1 (by kernel_rfl) ?_;simp only[tA,tB,tC,tD];(repeat go_big_quiet_step (fail));refine wpQuiet_nil ?_;refine stage_pure 35 #[.agg #[.int .i64 fn,.int .i64 fsize,.int .u32 ffirst,.int .i64 fcap,.int .i64 fb,.int .i64 fo,.int .i64 fr,.int .i64 fframes,.int .i64 fstack]] (.int .i64 1) rfl Tryz.call35 rfl rfl (fun w' _=>hrc.out w') ?_;simp only[Act.put,sA,sB,sC];refine stage_quiet 4 (by kernel_rfl) ?_;simp only[tA,tB,tC,tD];(repeat go_big_quiet_step (fail));refine wpQuiet_nil ?_;refine stage_pure 35 #[.agg #[.int .i64 fn,.int .i64 fsize,.int .u32 ffirst,.int .i64 fcap,.int .i64 fb,.int .i64 fo,.int .i64 fr,.int .i64 fframes,.int .i64 fstack]] (.int .i64 1) rfl Tryz.call35 rfl rfl (fun w' _=>hrc.out w') ?_;simp only[Act.put,sA,sB,sC];refine stage_quiet 9 (by kernel_rfl) ?_;simp only[tA,tB,tC,tD];(repeat go_big_quiet_step (fail));refine wpQuiet_nil ?_;refine stage_nil fun w7 hm7=> ?_
     have hm8:=Lib.hid (hm6.out.nil_then hm7);clear k1 hch hrc hm7 hm6;go_wp2_with fail;go_roundw
     case rel=>exact⟨k+1,by omega,by go_num,hm8.out⟩
     case measure=>simp[intOf];omega
   ·obtain rfl:k=2:=by omega
    clear hm hfs;go_wp2_with fail;refine(awake_ok _).mono ?_;rintro e w7 ⟨rfl,hm7⟩;have hm8:=Lib.hid (hmW.out.nil_then (hmH.out.nil_then hm7));clear hm7;go_wp2_with fail;go_ret;exact⟨rfl,hm8.out⟩
 have e9:(what%12==9)=false:=by simp[m9]
 clear m9;have hS4:=hS3;have hc4:CfR ⟨cn,csize,cfirst,ccap,cb,co,cr,cframes,cstack⟩:=by unfold CfR;have:=hcmH.out;unfold CfMade at this;simp only at this⊢;omega
 have c1:=cells_of (hS4.out.block 0 rfl);have c2:=cells_of (hS4.out.block 2 rfl);go_wp2_with fail;have hS5:=(hS4.out.alloc (.cells #[.int .i64 rn,.int .i64 rsize,.int .u32 rfirst,.int .i64 rcap,.int .i64 rb,.int .i64 ro,.int .i64 rr,.int .i64 rframes,.int .i64 rstack,.int .i64 cn,.int .i64 csize,.int .u32 cfirst,.int .i64 ccap,.int .i64 cb,.int .i64 co,.int .i64 cr,.int .i64 cframes,.int .i64 cstack] 81));rw[show(W3).heap.size=W3.heap.size by simp]at hS5;have hS5:=Lib.hid hS5;have hrow:=Lib.hid (hS5.out.block 0 rfl);have hmW:=Lib.hid hS5.out.mod;clear c0 f0 c1 c2 hS4 hS3 hS2;generalize(W3).alloc (.cells #[.int .i64 rn,.int .i64 rsize,.int .u32 rfirst,.int .i64 rcap,.int .i64 rb,.int .i64 ro,.int .i64 rr,.int .i64 rframes,.int .i64 rstack,.int .i64 cn,.int .i64 csize,.int .u32 cfirst,.int .i64 ccap,.int .i64 cb,.int .i64 co,.int .i64 cr,.int .i64 cframes,.int .i64 cstack] 81)=W5 at*;generalize W3.heap.size=bR at*;have hfs:=Lib.hid (show∀k:Nat,k<2→∃f:Cf,CfR f∧∀w',Mod [] W5 w'→w'.cell? ⟨bR,k*9,none⟩=some (.int .i64 f.n)∧w'.cell? ⟨bR,k*9+1,none⟩=some (.int .i64 f.size)∧w'.cell? ⟨bR,k*9+2,none⟩=some (.int .u32 f.first)∧w'.cell? ⟨bR,k*9+3,none⟩=some (.int .i64 f.cap)∧w'.cell? ⟨bR,k*9+4,none⟩=some (.int .i64 f.b)∧w'.cell? ⟨bR,k*9+5,none⟩=some (.int .i64 f.o)∧w'.cell? ⟨bR,k*9+6,none⟩=some (.int .i64 f.r)∧w'.cell? ⟨bR,k*9+7,none⟩=some (.int .i64 f.frames)∧w'.cell? ⟨bR,k*9+8,none⟩=some (.int .i64 f.stack)from fun k hk=>by
  have hc:=cells_of hrow.out;by_cases h:k=0
  ·subst h;refine⟨_,hfH.out,fun w' hm=> ?_⟩;have hc:=cells_of (hm.at hrow.out (by simp));simp[hc]
  ·obtain rfl:k=1:=by omega
   refine⟨⟨cn,csize,cfirst,ccap,cb,co,cr,cframes,cstack⟩,hc4,fun w' hm=> ?_⟩;have hc:=cells_of (hm.at hrow.out (by simp));simp[hc])
 clear hS5 hrow hc4
 try clear e0
 try clear e1
 try clear e2
 try clear e3
 try clear e4
 try clear e5
 try clear e6
 try clear e7
 try clear e8
 try clear e9
 go_loopw [71] (fun i wr=>∃k:Nat,k≤2∧i=.int .i64 k∧Mod [] W5 wr) (fun i _=>2-(intOf i).toNat)
 case atStart=>exact⟨0,by omega,rfl,Mod.refl _ _⟩
 case round=>
  obtain⟨k,hk,rfl,hm⟩:=hrel;have hmH:=Lib.hid hm;by_cases hlt:k<2
  ·obtain⟨⟨fn,fsize,ffirst,fcap,fb,fo,fr,fframes,fstack⟩,hfR,hcl⟩:=hfs.out k hlt;obtain⟨q0,q1,q2,q3,q4,q5,q6,q7,q8⟩:=hcl wr hm;simp only at q0 q1 q2 q3 q4 q5 q6 q7 q8;have hX:=Lib.hid ((Scene.empty wr).alloc (.cells #[.int .i64 fn,.int .i64 fsize,.int .u32 ffirst,.int .i64 fcap,.int .i64 fb,.int .i64 fo,.int .i64 fr,.int .i64 fframes,.int .i64 fstack] 81));have hfRH:=Lib.hid hfR;clear hm hcl hfR;by_cases hok:cfOk ⟨fn,fsize,ffirst,fcap,fb,fo,fr,fframes,fstack⟩
   ·have hnew:=Lib.hid (hnew_ok hX.out ⟨fn,fsize,ffirst,fcap,fb,fo,fr,fframes,fstack⟩ hok hfRH.out.1 hfRH.out.2);have hch:=Lib.hid fun w'=>check_ok ⟨fn,fsize,ffirst,fcap,fb,fo,fr,fframes,fstack⟩ w'
    have hrc:=Lib.hid fun w'=>rcheck_ok ⟨fn,fsize,ffirst,fcap,fb,fo,fr,fframes,fstack⟩ w'
    rw[cfE_ok hok]at hch hrc;unfold cfA at hnew hch hrc;simp only at hnew hch hrc;clear hok;go_wp2_with fail;refine hnew.out.mono ?_;rintro e w6 ⟨a,rfl,hS6⟩;have hm6:=Lib.hid (hmH.out.nil_then hS6.mod);have c6:=cells_of (hS6.block 1 rfl);have k1:=GW.cells (S:=[]) (hS6.block 1 rfl) (by simp);clear hnew hS6 q0 q1 q2 q3 q4 q5 q6 q7 q8;clear hX c6;go_wp2_with fail;refine wp_region_pure (by kernel_rfl) (by kernel_rfl) ?_;refine stage_quiet 1 (by kernel_rfl) ?_;simp only[tA,tB,tC,tD];(repeat go_big_quiet_step (fail));refine wpQuiet_nil ?_;refine stage_pure 34 #[.agg #[.int .i64 fn,.int .i64 fsize,.int .u32 ffirst,.int .i64 fcap,.int .i64 fb,.int .i64 fo,.int .i64 fr,.int .i64 fframes,.int .i64 fstack]] (.int .i64 0) rfl Tryz.call34 rfl rfl (fun w' _=>hch.out w') ?_;simp only[Act.put,sA,sB,sC];refine stage_quiet 1 (by kernel_rfl) ?_;simp only[tA,tB,tC,tD];(repeat go_big_quiet_step (fail));refine wpQuiet_nil ?_;refine stage_pure 35 #[.agg #[.int .i64 fn,.int .i64 fsize,.int .u32 ffirst,.int .i64 fcap,.int .i64 fb,.int .i64 fo,.int .i64 fr,.int .i64 fframes,.int .i64 fstack]] (.int .i64 0) rfl Tryz.call35 rfl rfl (fun w' _=>hrc.out w') ?_;simp only[Act.put,sA,sB,sC];refine stage_quiet 4 (by kernel_rfl) ?_;simp only[tA,tB,tC,tD];(repeat go_big_quiet_step (fail));refine wpQuiet_nil ?_;refine stage_pure 35 #[.agg #[.int .i64 fn,.int .i64 fsize,.int .u32 ffirst,.int .i64 fcap,.int .i64 fb,.int .i64 fo,.int .i64 fr,.int .i64 fframes,.int .i64 fstack]] (.int .i64 0) rfl Tryz.call35 rfl rfl (fun w' _=>hrc.out w') ?_;simp only[Act.put,sA,sB,sC];refine stage_quiet 9 (by kernel_rfl) ?_;simp only[tA,tB,tC,tD];(repeat go_big_quiet_step (fail));refine wpQuiet_nil ?_;refine stage_nil fun w7 hm7=> ?_
    have hm8:=Lib.hid (hm6.out.nil_then hm7);clear k1 hch hrc hm7 hm6;go_wp2_with fail;go_roundw
    case rel=>exact⟨k+1,by omega,by go_num,hm8.out⟩
    case measure=>simp[intOf];omega
   ·have hnew:=Lib.hid (hnew_bad ⟨fn,fsize,ffirst,fcap,fb,fo,fr,fframes,fstack⟩ hok);have hch:=Lib.hid fun w'=>check_ok ⟨fn,fsize,ffirst,fcap,fb,fo,fr,fframes,fstack⟩ w'
    have hrc:=Lib.hid fun w'=>rcheck_ok ⟨fn,fsize,ffirst,fcap,fb,fo,fr,fframes,fstack⟩ w'
    rw[cfE_bad hok]at hch hrc;unfold cfA at hnew hch hrc;simp only at hnew hch hrc;clear hok;go_wp2_with fail;refine(hnew.out _).mono ?_;rintro e w6 ⟨rfl,hm'⟩;have hS6:=hX.out.then hm';have hm6:=Lib.hid (hmH.out.nil_then hS6.mod);have c6:=cells_of (hS6.block 0 rfl);have k1:=GW.cells (S:=[]) (hS6.block 0 rfl) (by simp);clear hnew hS6 hm' q0 q1 q2 q3 q4 q5 q6 q7 q8;clear hX c6;go_wp2_with fail;refine wp_region_pure (by kernel_rfl) (by kernel_rfl) ?_;refine stage_quiet 1 (by kernel_rfl) ?_;simp only[tA,tB,tC,tD];(repeat go_big_quiet_step (fail));refine wpQuiet_nil ?_;refine stage_pure 34 #[.agg #[.int .i64 fn,.int .i64 fsize,.int .u32 ffirst,.int .i64 fcap,.int .i64 fb,.int .i64 fo,.int .i64 fr,.int .i64 fframes,.int .i64 fstack]] (.int .i64 1) rfl Tryz.call34 rfl rfl (fun w' _=>hch.out w') ?_;simp only[Act.put,sA,sB,sC];refine stage_quiet 1 (by kernel_rfl) ?_;simp only[tA,tB,tC,tD];(repeat go_big_quiet_step (fail));refine wpQuiet_nil ?_;refine stage_pure 35 #[.agg #[.int .i64 fn,.int .i64 fsize,.int .u32 ffirst,.int .i64 fcap,.int .i64 fb,.int .i64 fo,.int .i64 fr,.int .i64 fframes,.int .i64 fstack]] (.int .i64 1) rfl Tryz.call35 rfl rfl (fun w' _=>hrc.out w') ?_;simp only[Act.put,sA,sB,sC];refine stage_quiet 4 (by kernel_rfl) ?_;simp only[tA,tB,tC,tD];(repeat go_big_quiet_step (fail));refine wpQuiet_nil ?_;refine stage_pure 35 #[.agg #[.int .i64 fn,.int .i64 fsize,.int .u32 ffirst,.int .i64 fcap,.int .i64 fb,.int .i64 fo,.int .i64 fr,.int .i64 fframes,.int .i64 fstack]] (.int .i64 1) rfl Tryz.call35 rfl rfl (fun w' _=>hrc.out w') ?_;simp only[Act.put,sA,sB,sC];refine stage_quiet 9 (by kernel_rfl) ?_;simp only[tA,tB,tC,tD];(repeat go_big_quiet_step (fail));refine wpQuiet_nil ?_;refine stage_nil fun w7 hm7=> ?_
    have hm8:=Lib.hid (hm6.out.nil_then hm7);clear k1 hch hrc hm7 hm6;go_wp2_with fail;go_roundw
    case rel=>exact⟨k+1,by omega,by go_num,hm8.out⟩
    case measure=>simp[intOf];omega
  ·obtain rfl:k=2:=by omega
   clear hm hfs;go_wp2_with fail;refine(awake_ok _).mono ?_;rintro e w7 ⟨rfl,hm7⟩;have hm8:=Lib.hid (hmW.out.nil_then (hmH.out.nil_then hm7));clear hm7;go_wp2_with fail;go_ret;exact⟨rfl,hm8.out⟩
end Go.Proofs.YtapbeogoojejmaaGreat
