/- Joined contracts. No conditions. -/
import Derived.Test.YtgfdeiijblakfaaGreatCS
import Derived.Test.YtgfdeiijblakfaaGreatC21
import Derived.Test.YtgfdeiijblakfaaGreatC31
set_option maxHeartbeats 4000000
namespace Go.Proofs.YtgfdeiijblakfaaGreat
open Go Go.RowKit Go.Stg
theorem HInv.alive {c:HC} {k:Nat} {s:HS} (hI:HInv c k s) {p:Int} (h:s.st p=1):1≤p∧p≤64:=by
 rcases hI.st p with h'|⟨h',_⟩
 ·rw[h']at h;cases h
 ·exact h'
theorem logA_yes {c:HC} {s:HS} {e:Ev} (h:room c s e.p=true):logA c s e={s with evs:=s.evs++[e]}:=by
 unfold logA;rw[h];simp
theorem logA_no {c:HC} {s:HS} {e:Ev} (h:room c s e.p=false) (hc:e.counts=true):logA c s e={s with miss:=s.miss++[e.p]}:=by
 unfold logA;rw[h,hc];simp
theorem hpA_log {a:HA} {c:HC} {s s':HS} {B:List Int} {w:World} {f:List Nat} (hR:s'.R=s.R) (hT:s'.T=s.T) (hL:s'.L=s.L) (hm:s'.mem=s.mem) (hst:s'.st=s.st) (hB:ArIs c.size (obs c s) B)
  (h:Hold (hpP a c s.R s.T s.L s'.evs s'.miss s.st (usedH c s) B (hasH c s)) w f):(hpA a c s').on w f:=by
 have e1:obs c s'=obs c s:=by unfold obs obAt memH;rw[hT,hm]
 have e2:usedH c s'=usedH c s:=by unfold usedH liveE;rw[hT]
 have e3:hasH c s'=hasH c s:=by funext p;unfold hasH liveE;rw[hT,hL]
 refine⟨B,by rw[e1];exact hB,?_⟩;rw[e2,e3,hR,hT,hL,hst];exact h
section
variable {F:List Nat} {W w:World} {cs:List Comp} {a:HA} {c:HC} {s:HS} {evb:Nat} {ep eop eh earg:Int}
theorem act_dead (hS:Scene F W (hpA a c s::blockC evb (.cells #[.int .i64 ep,.int .i64 eop,.int .u64 eh,.int .u64 earg,.int .i64 0] 76 (0,0))::cs) w) (fv:Value) (hst:s.st ep≠1):
  Calls Tryz.prog 58 #[.pointer (some ⟨a.hb,0,none⟩),.pointer (some ⟨evb,0,none⟩),fv] w fun e w'=>e=.returned (.int .i64 15)∧Mod [] w w':=by
 obtain⟨B,hB,hS0⟩:=hp_open hS;have hal:=Lib.hid fun w' (hm:Mod [] w w')=>alive_ok (hm.at (hS0.block 0 rfl) (by simp)) (scene_st 7 (hS0.then hm) rfl) ep
 have hce:=cells_of (hS0.block 8 rfl);have hd:decide (s.st ep=1)=false:=by simpa using hst
 rw[hd]at hal;clear hS hS0 hd hst hB;go_enter Tryz.func58,Tryz.ntmps58;go_wp2_with fail;refine(hal.out _ (Mod.refl _ _)).mono ?_;rintro e w1 ⟨rfl,hm⟩;have hmH:=Lib.hid hm;clear hm hal;go_wp2_with fail;go_ret;exact⟨rfl,hmH.out⟩
theorem act_full (hS:Scene F W (hpA a c s::blockC evb (.cells #[.int .i64 ep,.int .i64 eop,.int .u64 eh,.int .u64 earg,.int .i64 0] 76 (0,0))::cs) w) (fv:Value) (hst:s.st ep=1) (hr:room c s ep=false) (ho:eop≠3∧eop≠5) (hml:s.miss.length≤1000000):
  Calls Tryz.prog 58 #[.pointer (some ⟨a.hb,0,none⟩),.pointer (some ⟨evb,0,none⟩),fv] w fun e w'=>e=.returned (.int .i64 19)∧Scene F W (hpA a c {s with miss:=s.miss++[ep]}::blockC evb (.cells #[.int .i64 ep,.int .i64 eop,.int .u64 eh,.int .u64 earg,.int .i64 0] 76 (0,0))::cs) w':=by
 obtain⟨B,hB,hS0⟩:=hp_open hS;have hal:=Lib.hid fun w' (hm:Mod [] w w')=>alive_ok (hm.at (hS0.block 0 rfl) (by simp)) (scene_st 7 (hS0.then hm) rfl) ep
 have hrm:=Lib.hid fun w' (hm:Mod [] w w')=>room_ok (((hS0.then hm).part 6 rfl).choose_spec.1) ep
 have hmi:=Lib.hid fun w' f' (h':(logC a.gb c.cap s.evs s.miss).on w' f')=>logmiss_ok h' hml ep
 have hce:=cells_of (hS0.block 8 rfl);have hd:decide (s.st ep=1)=true:=by simpa using hst
 rw[hd]at hal;have hr':decide ((recs s.evs ep:Int)<c.cap)=false:=hr;rw[hr']at hrm;have hS0H:=Lib.hid hS0;have hBH:=Lib.hid hB;have e3:(eop != 3)=true:=by simpa using ho.1
 have e5:(eop != 5)=true:=by simpa using ho.2
 clear hS hS0 hd hst hB hr hr' ho;go_enter Tryz.func58,Tryz.ntmps58;go_wp2_with fail;refine(hal.out _ (Mod.refl _ _)).mono ?_;rintro e w1 ⟨rfl,hm⟩;have hmH:=Lib.hid hm;have hce:=cells_of ((hS0H.out.then hm).block 8 rfl);have hch:=cells_of ((hS0H.out.then hm).block 0 rfl);clear hm hal;go_wp2_with fail;refine(hrm.out _ hmH.out).mono ?_;rintro e w2 ⟨rfl,hm⟩;have hS2:=Lib.hid (hS0H.out.then (hmH.out.nil_then hm));have hch:=cells_of (hS2.out.block 0 rfl);clear hm hrm hmH hS0H;go_wp2_with fail;obtain⟨fl,hl,hput⟩:=hS2.out.part 6 rfl;refine(hmi.out _ _ hl).mono ?_;rintro e w3 ⟨f',rfl,q1,q2,q3⟩;have hS3:=Lib.hid (hput w3 f' _ q1 q2 q3);clear hl hput q1 q2 q3 hS2 hmi;go_wp2_with fail;go_ret;exact⟨rfl,Scene.shut1 (c:=hpA a c {s with miss:=s.miss++[ep]}) (hpP a c s.R s.T s.L s.evs (s.miss++[ep]) s.st (usedH c s) B (hasH c s)) hS3.out fun g hg=>hpA_log rfl rfl rfl rfl rfl hBH.out hg⟩
theorem act_do (hS:Scene F W (hpA a c s::blockC evb (.cells #[.int .i64 ep,.int .i64 eop,.int .u64 eh,.int .u64 earg,.int .i64 0] 76 (0,0))::cs) w) (hst:s.st ep=1) (hr:eop≠3∧eop≠5→room c s ep=true)
  {g:FuncId} {lb:Array Value} (eg:∀args w,(callFunc g args).run Tryz.prog w=.ok (.enter g args) w) {s':HS} {cs':List Comp} {h1 r:Int} (hok:Ev.ok ⟨ep,eop,h1,earg,r⟩) (hcn:Ev.counts ⟨ep,eop,h1,earg,r⟩=true) (hel:s'.evs.length≤100000) (hml:s'.miss.length≤1000000)
  (hdo:∀w',Scene F W (hpA a c s::blockC evb (.cells #[.int .i64 ep,.int .i64 eop,.int .u64 eh,.int .u64 earg,.int .i64 0] 76 (0,0))::cs) w'→Calls Tryz.prog g lb w' fun e w''=>e=.returned (.int .i64 r)∧Scene F W (hpA a c s'::blockC evb (.cells #[.int .i64 ep,.int .i64 eop,.int .u64 h1,.int .u64 earg,.int .i64 0] 76 (0,0))::cs') w''):
  Calls Tryz.prog 58 #[.pointer (some ⟨a.hb,0,none⟩),.pointer (some ⟨evb,0,none⟩),.func (.func g) #[] lb] w fun e w'=>e=.returned (.int .i64 r)∧Scene F W (hpA a c (if(eop=3∨eop=5)∧r=0 then s' else logA c s' ⟨ep,eop,h1,earg,r⟩)::blockC evb (.cells #[.int .i64 ep,.int .i64 eop,.int .u64 h1,.int .u64 earg,.int .i64 r] 76 (0,0))::cs') w':=by
 obtain⟨sf,hsf⟩:∃sf,(if(eop=3∨eop=5)∧r=0 then s' else logA c s' ⟨ep,eop,h1,earg,r⟩)=sf:=⟨_,rfl⟩;rw[hsf];have hsfH:=Lib.hid hsf;obtain⟨B,hB,hS0⟩:=hp_open hS;have hal:=Lib.hid fun w' (hm:Mod [] w w')=>alive_ok (hm.at (hS0.block 0 rfl) (by simp)) (scene_st 7 (hS0.then hm) rfl) ep
 have hrm:=Lib.hid fun w' (hm:Mod [] w w')=>room_ok (((hS0.then hm).part 6 rfl).choose_spec.1) ep
 have hce:=cells_of (hS0.block 8 rfl);clear hsf;have hd:decide (s.st ep=1)=true:=by simpa using hst
 rw[hd]at hal;have hS0H:=Lib.hid hS0;have hSH:=Lib.hid hS;have hdoH:=Lib.hid hdo;have hrH:=Lib.hid hr;clear hS hS0 hd hst hB hr hdo;go_enter Tryz.func58,Tryz.ntmps58;go_wp2_with fail;refine(hal.out _ (Mod.refl _ _)).mono ?_;rintro e w1 ⟨rfl,hm⟩;have hmH:=Lib.hid hm;have hce:=cells_of ((hS0H.out.then hm).block 8 rfl);have hch:=cells_of ((hS0H.out.then hm).block 0 rfl);clear hm hal;by_cases hq:eop≠3∧eop≠5
 ·have e3:(eop != 3)=true:=by simpa using hq.1
  have e5:(eop != 5)=true:=by simpa using hq.2
  have hr':decide ((recs s.evs ep:Int)<c.cap)=true:=hrH.out hq;have hif:¬((eop=3∨eop=5)∧r=0):=fun h=>h.1.elim hq.1 hq.2
  have hifH:=Lib.hid hif;rw[hr']at hrm;clear hrH hr' hif hq;go_wp2_with fail;refine(hrm.out _ hmH.out).mono ?_;rintro e w2 ⟨rfl,hm⟩;have hS2:=Lib.hid (hSH.out.then (hmH.out.nil_then hm));clear hm hrm hmH hS0H hSH;go_wp2_with fail;refine(hdoH.out _ hS2.out).mono ?_;rintro e w3 ⟨rfl,hS3⟩;have hS3H:=Lib.hid hS3;have hce:=cells_of (hS3.block 1 rfl);have hfe:=frozen_of (hS3.block 1 rfl);clear hS3 hS2 hdoH;have hS4:=Lib.hid (hS3H.out.blockSet 1 rfl 4 (.int .i64 r));go_wp2_with fail;clear hce hfe hS3H;generalize w3.setCell ⟨evb,4,none⟩ (.int .i64 r)=W4 at*;obtain⟨B',hB',hS5⟩:=hp_open hS4.out;obtain⟨fl,hl,hput,hne⟩:=hS5.takePart 6 rfl;have k1:=GW.cells (S:=fl) (hS5.block 0 rfl) (hne 0 _ _ rfl);have k2:=GW.cells (S:=fl) (hS5.block 8 rfl) (hne 7 _ _ rfl);have hlH:=Lib.hid hl;have hputH:=Lib.hid hput;have hBH:=Lib.hid hB';clear hS5 hl hput hne hB';by_cases hroom:(recs s'.evs ep:Int)<c.cap
  ·have hap:=Lib.hid fun w' (hm:Mod [] W4 w')=>(show Calls Tryz.prog 23 #[.pointer (some ⟨a.gb,0,none⟩),.agg #[.int .i64 ep,.int .i64 eop,.int .u64 h1,.int .u64 earg,.int .i64 r]] w' (Takes (logC a.gb c.cap (s'.evs++[⟨ep,eop,h1,earg,r⟩]) s'.miss) (.int .i64 0) w' fl) by
    have:=logappend_ok (hlH.out w' hm) hok hel;have e1:appE c.cap s'.evs ⟨ep,eop,h1,earg,r⟩=0:=by unfold appE;rw[if_neg];intro h;exact h.2 hroom
    have e2:appL c.cap s'.evs ⟨ep,eop,h1,earg,r⟩=s'.evs++[⟨ep,eop,h1,earg,r⟩]:=by unfold appL;rw[if_neg];intro h;exact h.2 hroom
    rw[e1,e2]at this;exact this)
   refine wp_region_part fl (by kernel_rfl) (by kernel_rfl) ?_;refine stage_quiet 7 (by kernel_rfl) ?_;simp only[tA,tB,tC,tD];(repeat go_big_quiet_step (fail));refine wpQuiet_nil ?_;refine stage_takes 23 #[.pointer (some ⟨a.gb,0,none⟩),.agg #[.int .i64 ep,.int .i64 eop,.int .u64 h1,.int .u64 earg,.int .i64 r]] (.int .i64 0) rfl Tryz.call23 rfl rfl hap.out ?_;simp only[Act.put,sA,sB,sC];refine stage_quiet 1 (by kernel_rfl) ?_;simp only[tA,tB,tC,tD];(repeat go_big_quiet_step (fail));refine wpQuiet_nil ?_;refine stage_nil fun w5 hw5=> ?_
   have hS6:=Lib.hid (hputH.out w5 _ hw5);have hce:=cells_of (hS6.out.block 8 rfl);clear k1 k2 hap hputH hlH hw5;go_wp2_with fail;go_ret;refine⟨rfl,?_⟩;rw[←hsfH.out,if_neg hifH.out,logA_yes (by unfold room;simpa using hroom)];exact Scene.shut1 (c:=hpA a c {s' with evs:=s'.evs++[⟨ep,eop,h1,earg,r⟩]}) (hpP a c s'.R s'.T s'.L (s'.evs++[(⟨ep,eop,h1,earg,r⟩:Ev)]) s'.miss s'.st (usedH c s') B' (hasH c s')) hS6.out fun g hg=>hpA_log rfl rfl rfl rfl rfl hBH.out hg
  ·have hap:=Lib.hid fun w' (hm:Mod [] W4 w')=>(show Calls Tryz.prog 23 #[.pointer (some ⟨a.gb,0,none⟩),.agg #[.int .i64 ep,.int .i64 eop,.int .u64 h1,.int .u64 earg,.int .i64 r]] w' (Takes (logC a.gb c.cap s'.evs s'.miss) (.int .i64 19) w' fl) by
    have:=logappend_ok (hlH.out w' hm) hok hel;have e1:appE c.cap s'.evs ⟨ep,eop,h1,earg,r⟩=19:=by unfold appE;rw[if_pos ⟨hcn,hroom⟩]
    have e2:appL c.cap s'.evs ⟨ep,eop,h1,earg,r⟩=s'.evs:=by unfold appL;rw[if_pos ⟨hcn,hroom⟩]
    rw[e1,e2]at this;exact this)
   have hmi:=Lib.hid fun w' f' (h':(logC a.gb c.cap s'.evs s'.miss).on w' f')=>logmiss_ok h' hml ep
   refine wp_region_part fl (by kernel_rfl) (by kernel_rfl) ?_;refine stage_quiet 7 (by kernel_rfl) ?_;simp only[tA,tB,tC,tD];(repeat go_big_quiet_step (fail));refine wpQuiet_nil ?_;refine stage_takes 23 #[.pointer (some ⟨a.gb,0,none⟩),.agg #[.int .i64 ep,.int .i64 eop,.int .u64 h1,.int .u64 earg,.int .i64 r]] (.int .i64 19) rfl Tryz.call23 rfl rfl hap.out ?_;simp only[Act.put,sA,sB,sC];refine stage_quiet 1 (by kernel_rfl) ?_;simp only[tA,tB,tC,tD];(repeat go_big_quiet_step (fail));refine wpQuiet_nil ?_;refine stage_nil fun w5 hw5=> ?_
   have hS6:=Lib.hid (hputH.out w5 _ hw5);have hch:=cells_of (hS6.out.block 0 rfl);clear k1 k2 hap hputH hlH hw5;go_wp2_with fail;obtain⟨fm,hl,hput⟩:=hS6.out.part 6 rfl;refine(hmi.out _ _ hl).mono ?_;rintro e w6 ⟨f',rfl,q1,q2,q3⟩;have hS7:=Lib.hid (hput w6 f' _ q1 q2 q3);have hce:=cells_of (hS7.out.block 8 rfl);clear hl hput q1 q2 q3 hS6 hmi hch;go_wp2_with fail;go_ret;refine⟨rfl,?_⟩;rw[←hsfH.out,if_neg hifH.out,logA_no (by unfold room;simpa using hroom) hcn];exact Scene.shut1 (c:=hpA a c {s' with miss:=s'.miss++[ep]}) (hpP a c s'.R s'.T s'.L s'.evs (s'.miss++[ep]) s'.st (usedH c s') B' (hasH c s')) hS7.out fun g hg=>hpA_log rfl rfl rfl rfl rfl hBH.out hg
 ·have hq':eop=3∨eop=5:=by omega
  clear hq hrH hrm;rcases hq' with rfl|rfl
  ·have hS2:=Lib.hid (hSH.out.then hmH.out);clear hmH hS0H hSH;go_wp2_with fail;refine(hdoH.out _ hS2.out).mono ?_;rintro e w3 ⟨rfl,hS3⟩;have hS3H:=Lib.hid hS3;have hce:=cells_of (hS3.block 1 rfl);have hfe:=frozen_of (hS3.block 1 rfl);clear hS3 hS2 hdoH;have hS4:=Lib.hid (hS3H.out.blockSet 1 rfl 4 (.int .i64 r));by_cases hr0:r=0
   ·subst hr0;go_wp2_with fail;go_ret;refine⟨rfl,?_⟩;rw[←hsfH.out,if_pos (by simp)];exact hS4.out
   ·have hr0H:=Lib.hid hr0;have er:(r==0)=false:=by simpa using hr0
    clear hr0;go_wp2_with fail;clear hce hfe hS3H;generalize w3.setCell ⟨evb,4,none⟩ (.int .i64 r)=W4 at*;obtain⟨B',hB',hS5⟩:=hp_open hS4.out;obtain⟨fl,hl,hput,hne⟩:=hS5.takePart 6 rfl;have k1:=GW.cells (S:=fl) (hS5.block 0 rfl) (hne 0 _ _ rfl);have k2:=GW.cells (S:=fl) (hS5.block 8 rfl) (hne 7 _ _ rfl);have hlH:=Lib.hid hl;have hputH:=Lib.hid hput;have hBH:=Lib.hid hB';clear hS5 hl hput hne hB';by_cases hroom:(recs s'.evs ep:Int)<c.cap
    ·have hap:=Lib.hid fun w' (hm:Mod [] W4 w')=>(show Calls Tryz.prog 23 #[.pointer (some ⟨a.gb,0,none⟩),.agg #[.int .i64 ep,.int .i64 3,.int .u64 h1,.int .u64 earg,.int .i64 r]] w' (Takes (logC a.gb c.cap (s'.evs++[⟨ep,3,h1,earg,r⟩]) s'.miss) (.int .i64 0) w' fl) by
      have:=logappend_ok (hlH.out w' hm) hok hel;have e1:appE c.cap s'.evs ⟨ep,3,h1,earg,r⟩=0:=by unfold appE;rw[if_neg];intro h;exact h.2 hroom
      have e2:appL c.cap s'.evs ⟨ep,3,h1,earg,r⟩=s'.evs++[⟨ep,3,h1,earg,r⟩]:=by unfold appL;rw[if_neg];intro h;exact h.2 hroom
      rw[e1,e2]at this;exact this)
     refine wp_region_part fl (by kernel_rfl) (by kernel_rfl) ?_;refine stage_quiet 7 (by kernel_rfl) ?_;simp only[tA,tB,tC,tD];(repeat go_big_quiet_step (fail));refine wpQuiet_nil ?_;refine stage_takes 23 #[.pointer (some ⟨a.gb,0,none⟩),.agg #[.int .i64 ep,.int .i64 3,.int .u64 h1,.int .u64 earg,.int .i64 r]] (.int .i64 0) rfl Tryz.call23 rfl rfl hap.out ?_;simp only[Act.put,sA,sB,sC];refine stage_quiet 1 (by kernel_rfl) ?_;simp only[tA,tB,tC,tD];(repeat go_big_quiet_step (fail));refine wpQuiet_nil ?_;refine stage_nil fun w5 hw5=> ?_
     have hS6:=Lib.hid (hputH.out w5 _ hw5);have hce:=cells_of (hS6.out.block 8 rfl);clear k1 k2 hap hputH hlH hw5;go_wp2_with fail;go_ret;refine⟨rfl,?_⟩;rw[←hsfH.out,if_neg (fun h=>hr0H.out h.2),logA_yes (by unfold room;simpa using hroom)];exact Scene.shut1 (c:=hpA a c {s' with evs:=s'.evs++[⟨ep,3,h1,earg,r⟩]}) (hpP a c s'.R s'.T s'.L (s'.evs++[(⟨ep,3,h1,earg,r⟩:Ev)]) s'.miss s'.st (usedH c s') B' (hasH c s')) hS6.out fun g hg=>hpA_log rfl rfl rfl rfl rfl hBH.out hg
    ·have hap:=Lib.hid fun w' (hm:Mod [] W4 w')=>(show Calls Tryz.prog 23 #[.pointer (some ⟨a.gb,0,none⟩),.agg #[.int .i64 ep,.int .i64 3,.int .u64 h1,.int .u64 earg,.int .i64 r]] w' (Takes (logC a.gb c.cap s'.evs s'.miss) (.int .i64 19) w' fl) by
      have:=logappend_ok (hlH.out w' hm) hok hel;have e1:appE c.cap s'.evs ⟨ep,3,h1,earg,r⟩=19:=by unfold appE;rw[if_pos ⟨hcn,hroom⟩]
      have e2:appL c.cap s'.evs ⟨ep,3,h1,earg,r⟩=s'.evs:=by unfold appL;rw[if_pos ⟨hcn,hroom⟩]
      rw[e1,e2]at this;exact this)
     have hmi:=Lib.hid fun w' f' (h':(logC a.gb c.cap s'.evs s'.miss).on w' f')=>logmiss_ok h' hml ep
     refine wp_region_part fl (by kernel_rfl) (by kernel_rfl) ?_;refine stage_quiet 7 (by kernel_rfl) ?_;simp only[tA,tB,tC,tD];(repeat go_big_quiet_step (fail));refine wpQuiet_nil ?_;refine stage_takes 23 #[.pointer (some ⟨a.gb,0,none⟩),.agg #[.int .i64 ep,.int .i64 3,.int .u64 h1,.int .u64 earg,.int .i64 r]] (.int .i64 19) rfl Tryz.call23 rfl rfl hap.out ?_;simp only[Act.put,sA,sB,sC];refine stage_quiet 1 (by kernel_rfl) ?_;simp only[tA,tB,tC,tD];(repeat go_big_quiet_step (fail));refine wpQuiet_nil ?_;refine stage_nil fun w5 hw5=> ?_
     have hS6:=Lib.hid (hputH.out w5 _ hw5);have hch:=cells_of (hS6.out.block 0 rfl);clear k1 k2 hap hputH hlH hw5;go_wp2_with fail;obtain⟨fm,hl,hput⟩:=hS6.out.part 6 rfl;refine(hmi.out _ _ hl).mono ?_;rintro e w6 ⟨f',rfl,q1,q2,q3⟩;have hS7:=Lib.hid (hput w6 f' _ q1 q2 q3);have hce:=cells_of (hS7.out.block 8 rfl);clear hl hput q1 q2 q3 hS6 hmi hch;go_wp2_with fail;go_ret;refine⟨rfl,?_⟩;rw[←hsfH.out,if_neg (fun h=>hr0H.out h.2),logA_no (by unfold room;simpa using hroom) hcn];exact Scene.shut1 (c:=hpA a c {s' with miss:=s'.miss++[ep]}) (hpP a c s'.R s'.T s'.L s'.evs (s'.miss++[ep]) s'.st (usedH c s') B' (hasH c s')) hS7.out fun g hg=>hpA_log rfl rfl rfl rfl rfl hBH.out hg
  ·have hS2:=Lib.hid (hSH.out.then hmH.out);clear hmH hS0H hSH;go_wp2_with fail;refine(hdoH.out _ hS2.out).mono ?_;rintro e w3 ⟨rfl,hS3⟩;have hS3H:=Lib.hid hS3;have hce:=cells_of (hS3.block 1 rfl);have hfe:=frozen_of (hS3.block 1 rfl);clear hS3 hS2 hdoH;have hS4:=Lib.hid (hS3H.out.blockSet 1 rfl 4 (.int .i64 r));by_cases hr0:r=0
   ·subst hr0;go_wp2_with fail;go_ret;refine⟨rfl,?_⟩;rw[←hsfH.out,if_pos (by simp)];exact hS4.out
   ·have hr0H:=Lib.hid hr0;have er:(r==0)=false:=by simpa using hr0
    clear hr0;go_wp2_with fail;clear hce hfe hS3H;generalize w3.setCell ⟨evb,4,none⟩ (.int .i64 r)=W4 at*;obtain⟨B',hB',hS5⟩:=hp_open hS4.out;obtain⟨fl,hl,hput,hne⟩:=hS5.takePart 6 rfl;have k1:=GW.cells (S:=fl) (hS5.block 0 rfl) (hne 0 _ _ rfl);have k2:=GW.cells (S:=fl) (hS5.block 8 rfl) (hne 7 _ _ rfl);have hlH:=Lib.hid hl;have hputH:=Lib.hid hput;have hBH:=Lib.hid hB';clear hS5 hl hput hne hB';by_cases hroom:(recs s'.evs ep:Int)<c.cap
    ·have hap:=Lib.hid fun w' (hm:Mod [] W4 w')=>(show Calls Tryz.prog 23 #[.pointer (some ⟨a.gb,0,none⟩),.agg #[.int .i64 ep,.int .i64 5,.int .u64 h1,.int .u64 earg,.int .i64 r]] w' (Takes (logC a.gb c.cap (s'.evs++[⟨ep,5,h1,earg,r⟩]) s'.miss) (.int .i64 0) w' fl) by
      have:=logappend_ok (hlH.out w' hm) hok hel;have e1:appE c.cap s'.evs ⟨ep,5,h1,earg,r⟩=0:=by unfold appE;rw[if_neg];intro h;exact h.2 hroom
      have e2:appL c.cap s'.evs ⟨ep,5,h1,earg,r⟩=s'.evs++[⟨ep,5,h1,earg,r⟩]:=by unfold appL;rw[if_neg];intro h;exact h.2 hroom
      rw[e1,e2]at this;exact this)
     refine wp_region_part fl (by kernel_rfl) (by kernel_rfl) ?_;refine stage_quiet 7 (by kernel_rfl) ?_;simp only[tA,tB,tC,tD];(repeat go_big_quiet_step (fail));refine wpQuiet_nil ?_;refine stage_takes 23 #[.pointer (some ⟨a.gb,0,none⟩),.agg #[.int .i64 ep,.int .i64 5,.int .u64 h1,.int .u64 earg,.int .i64 r]] (.int .i64 0) rfl Tryz.call23 rfl rfl hap.out ?_;simp only[Act.put,sA,sB,sC];refine stage_quiet 1 (by kernel_rfl) ?_;simp only[tA,tB,tC,tD];(repeat go_big_quiet_step (fail));refine wpQuiet_nil ?_;refine stage_nil fun w5 hw5=> ?_
     have hS6:=Lib.hid (hputH.out w5 _ hw5);have hce:=cells_of (hS6.out.block 8 rfl);clear k1 k2 hap hputH hlH hw5;go_wp2_with fail;go_ret;refine⟨rfl,?_⟩;rw[←hsfH.out,if_neg (fun h=>hr0H.out h.2),logA_yes (by unfold room;simpa using hroom)];exact Scene.shut1 (c:=hpA a c {s' with evs:=s'.evs++[⟨ep,5,h1,earg,r⟩]}) (hpP a c s'.R s'.T s'.L (s'.evs++[(⟨ep,5,h1,earg,r⟩:Ev)]) s'.miss s'.st (usedH c s') B' (hasH c s')) hS6.out fun g hg=>hpA_log rfl rfl rfl rfl rfl hBH.out hg
    ·have hap:=Lib.hid fun w' (hm:Mod [] W4 w')=>(show Calls Tryz.prog 23 #[.pointer (some ⟨a.gb,0,none⟩),.agg #[.int .i64 ep,.int .i64 5,.int .u64 h1,.int .u64 earg,.int .i64 r]] w' (Takes (logC a.gb c.cap s'.evs s'.miss) (.int .i64 19) w' fl) by
      have:=logappend_ok (hlH.out w' hm) hok hel;have e1:appE c.cap s'.evs ⟨ep,5,h1,earg,r⟩=19:=by unfold appE;rw[if_pos ⟨hcn,hroom⟩]
      have e2:appL c.cap s'.evs ⟨ep,5,h1,earg,r⟩=s'.evs:=by unfold appL;rw[if_pos ⟨hcn,hroom⟩]
      rw[e1,e2]at this;exact this)
     have hmi:=Lib.hid fun w' f' (h':(logC a.gb c.cap s'.evs s'.miss).on w' f')=>logmiss_ok h' hml ep
     refine wp_region_part fl (by kernel_rfl) (by kernel_rfl) ?_;refine stage_quiet 7 (by kernel_rfl) ?_;simp only[tA,tB,tC,tD];(repeat go_big_quiet_step (fail));refine wpQuiet_nil ?_;refine stage_takes 23 #[.pointer (some ⟨a.gb,0,none⟩),.agg #[.int .i64 ep,.int .i64 5,.int .u64 h1,.int .u64 earg,.int .i64 r]] (.int .i64 19) rfl Tryz.call23 rfl rfl hap.out ?_;simp only[Act.put,sA,sB,sC];refine stage_quiet 1 (by kernel_rfl) ?_;simp only[tA,tB,tC,tD];(repeat go_big_quiet_step (fail));refine wpQuiet_nil ?_;refine stage_nil fun w5 hw5=> ?_
     have hS6:=Lib.hid (hputH.out w5 _ hw5);have hch:=cells_of (hS6.out.block 0 rfl);clear k1 k2 hap hputH hlH hw5;go_wp2_with fail;obtain⟨fm,hl,hput⟩:=hS6.out.part 6 rfl;refine(hmi.out _ _ hl).mono ?_;rintro e w6 ⟨f',rfl,q1,q2,q3⟩;have hS7:=Lib.hid (hput w6 f' _ q1 q2 q3);have hce:=cells_of (hS7.out.block 8 rfl);clear hl hput q1 q2 q3 hS6 hmi hch;go_wp2_with fail;go_ret;refine⟨rfl,?_⟩;rw[←hsfH.out,if_neg (fun h=>hr0H.out h.2),logA_no (by unfold room;simpa using hroom) hcn];exact Scene.shut1 (c:=hpA a c {s' with miss:=s'.miss++[ep]}) (hpP a c s'.R s'.T s'.L s'.evs (s'.miss++[ep]) s'.st (usedH c s') B' (hasH c s')) hS7.out fun g hg=>hpA_log rfl rfl rfl rfl rfl hBH.out hg
end
end Go.Proofs.YtgfdeiijblakfaaGreat
namespace Go.Proofs.YtgfdeiijblakfaaGreat
open Go Go.RowKit Go.Stg
theorem size_alloc (w:World) (o:Obj):(w.alloc o).heap.size=w.heap.size+1:=by simp
theorem accD_range {c:HC} {k:Nat} {s:HS} (_:HInv c k s) (p o acc:Int):0≤accD s p o acc∧accD s p o acc≤29:=by
 unfold accD Tb.resE Bw.accE
 repeat' split
 all_goals omega
theorem act_rec {F:List Nat} {W w:World} {cs:List Comp} {a:HA} {c:HC} {k:Nat} {s:HS} {evb:Nat} {ep eop eh earg:Int} (hI:HInv c k s) (hk:k≤1000)
  (hS:Scene F W (hpA a c s::blockC evb (.cells #[.int .i64 ep,.int .i64 eop,.int .u64 eh,.int .u64 earg,.int .i64 0] 76 (0,0))::cs) w) (ho:eop≠3∧eop≠5) (ho2:1≤eop∧eop≤11) (ha:0≤earg∧earg≤18446744073709551615)
  {g:FuncId} {lb:Array Value} (eg:∀args w,(callFunc g args).run Tryz.prog w=.ok (.enter g args) w) {rs:Int×HS} {h1:Int} (hr:0≤rs.1∧rs.1≤29) (hh:0≤h1∧h1≤18446744073709551615) (he:rs.2.evs=s.evs) (hms:rs.2.miss=s.miss)
  (hdo:s.st ep=1→∀w',Scene F W (hpA a c s::blockC evb (.cells #[.int .i64 ep,.int .i64 eop,.int .u64 eh,.int .u64 earg,.int .i64 0] 76 (0,0))::cs) w'→Calls Tryz.prog g lb w' fun e w''=>e=.returned (.int .i64 rs.1)∧Scene F W (hpA a c rs.2::blockC evb (.cells #[.int .i64 ep,.int .i64 eop,.int .u64 h1,.int .u64 earg,.int .i64 0] 76 (0,0))::cs) w''):
  Calls Tryz.prog 58 #[.pointer (some ⟨a.hb,0,none⟩),.pointer (some ⟨evb,0,none⟩),.func (.func g) #[] lb] w fun e w'=>e=.returned (.int .i64 (act c s ep eop h1 earg rs).1)∧
   ∃eh2 er2,Scene F W (hpA a c (act c s ep eop h1 earg rs).2::blockC evb (.cells #[.int .i64 ep,.int .i64 eop,.int .u64 eh2,.int .u64 earg,.int .i64 er2] 76 (0,0))::cs) w'∧((act c s ep eop h1 earg rs).1=0→eh2=h1):=by
 have hel:=hI.evk;have hml:=hI.missk;by_cases hst:s.st ep=1
 ·cases hroom:room c s ep with
  |false=>
   have e1:act c s ep eop h1 earg rs=(19,{s with miss:=s.miss++[ep]}):=by unfold act;rw[if_neg (by simp[hst]),if_pos hroom]
   rw[e1];refine(act_full hS _ hst hroom ho (by omega)).mono ?_;rintro e w' ⟨he,hS'⟩;exact⟨he,eh,0,hS',fun h=>absurd h (by simp)⟩
  |true=>
   have e1:act c s ep eop h1 earg rs=(rs.1,logA c rs.2 ⟨ep,eop,h1,earg,rs.1⟩):=by unfold act;rw[if_neg (by simp[hst]),if_neg (by simp[hroom])]
   rw[e1];have hp:=hI.alive hst;refine(act_do hS hst (fun _=>hroom) eg (s':=rs.2) (cs':=cs) (h1:=h1) (r:=rs.1) ⟨hp,.inl ho2,hh,ha,hr⟩ (by simp[Ev.counts];omega) (by rw[he];omega) (by rw[hms];omega) (hdo hst)).mono ?_;rintro e w' ⟨he,hS'⟩;rw[if_neg (by omega)]at hS';exact⟨he,h1,rs.1,hS',fun _=>rfl⟩
 ·have e1:act c s ep eop h1 earg rs=(15,s):=by unfold act;rw[if_pos hst]
  rw[e1];refine(act_dead hS _ hst).mono ?_;rintro e w' ⟨he,hm⟩;exact⟨he,eh,0,hS.then hm,fun h=>absurd h (by simp)⟩
theorem act_quiet {F:List Nat} {W w:World} {cs cs':List Comp} {a:HA} {c:HC} {k:Nat} {s:HS} {evb:Nat} {ep eop eh earg r:Int} (hI:HInv c k s) (hk:k≤1000)
  (hS:Scene F W (hpA a c s::blockC evb (.cells #[.int .i64 ep,.int .i64 eop,.int .u64 eh,.int .u64 earg,.int .i64 0] 76 (0,0))::cs) w) (ho:eop=3∨eop=5) (ha:0≤earg∧earg≤18446744073709551615)
  {g:FuncId} {lb:Array Value} (eg:∀args w,(callFunc g args).run Tryz.prog w=.ok (.enter g args) w) (hr:0≤r∧r≤29) (hh:0≤eh∧eh≤18446744073709551615)
  (hdo:s.st ep=1→∀w',Scene F W (hpA a c s::blockC evb (.cells #[.int .i64 ep,.int .i64 eop,.int .u64 eh,.int .u64 earg,.int .i64 0] 76 (0,0))::cs) w'→Calls Tryz.prog g lb w' fun e w''=>e=.returned (.int .i64 r)∧Scene F W (hpA a c s::blockC evb (.cells #[.int .i64 ep,.int .i64 eop,.int .u64 eh,.int .u64 earg,.int .i64 0] 76 (0,0))::cs') w''):
  Calls Tryz.prog 58 #[.pointer (some ⟨a.hb,0,none⟩),.pointer (some ⟨evb,0,none⟩),.func (.func g) #[] lb] w fun e w'=>e=.returned (.int .i64 (actQ c s ep eop eh earg r).1)∧
   ∃er2 cs2,Scene F W (hpA a c (actQ c s ep eop eh earg r).2::blockC evb (.cells #[.int .i64 ep,.int .i64 eop,.int .u64 eh,.int .u64 earg,.int .i64 er2] 76 (0,0))::cs2) w'∧(s.st ep≠1∧cs2=cs∨s.st ep=1∧cs2=cs'):=by
 have hel:=hI.evk;have hml:=hI.missk;by_cases hst:s.st ep=1
 ·have hp:=hI.alive hst;have h2:=act_do hS hst (fun h=>absurd ho (by omega)) eg (s':=s) (cs':=cs') (h1:=eh) (r:=r) ⟨hp,.inl (show 1≤eop∧eop≤11 by omega),hh,ha,hr⟩ (by simp[Ev.counts];omega) (by omega) (by omega) (hdo hst);by_cases h0:r=0
  ·have e1:actQ c s ep eop eh earg r=(0,s):=by unfold actQ;rw[if_neg (by simp[hst]),if_pos h0]
   rw[e1];refine h2.mono ?_;rintro e w' ⟨he,hS'⟩;rw[if_pos ⟨ho,h0⟩]at hS';subst h0;exact⟨he,0,cs',hS',.inr ⟨hst,rfl⟩⟩
  ·have e1:actQ c s ep eop eh earg r=(r,logA c s ⟨ep,eop,eh,earg,r⟩):=by unfold actQ;rw[if_neg (by simp[hst]),if_neg h0]
   rw[e1];refine h2.mono ?_;rintro e w' ⟨he,hS'⟩;rw[if_neg fun h=>h0 h.2]at hS';exact⟨he,r,cs',hS',.inr ⟨hst,rfl⟩⟩
 ·have e1:actQ c s ep eop eh earg r=(15,s):=by unfold actQ;rw[if_pos hst]
  rw[e1];refine(act_dead hS _ hst).mono ?_;rintro e w' ⟨he,hm⟩;exact⟨he,0,cs,hS.then hm,.inl ⟨hst,rfl⟩⟩
end Go.Proofs.YtgfdeiijblakfaaGreat
