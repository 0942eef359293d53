/- Joined contracts. No conditions. -/
import Derived.Test.YtdehaommhbjakaaGreatC32
set_option maxHeartbeats 4000000
set_option maxRecDepth 20000
namespace Go.Proofs.YtdehaommhbjakaaGreat
open RowKit Stg
theorem az.alive {c:HC} {k:Nat} {s:HS} (hI:az c k s) {p:Int} (h:s.st p=1):1≤p∧p≤64:=by
 rcases hI.st p with h'|⟨h',_⟩
 ·rw[h']at h;cases h
 ·exact h'
theorem sS {c:HC} {s:HS} {e:Ev} (h:room c s e.p=true):eK c s e={s with evs:=s.evs++[e]}:=by
 unfold eK;rw[h];simp
theorem ti {c:HC} {s:HS} {e:Ev} (h:room c s e.p=false) (hc:e.counts=true):eK c s e={s with miss:=s.miss++[e.p]}:=by
 unfold eK;rw[h,hc];simp
theorem mj {a:HA} {c:HC} {s s':HS} {B:List Int} {w:World} {f:List Nat} (hR:s'.R=s.R) (hT:s'.T=s.T) (hL:s'.L=s.L) (hm:s'.mem=s.mem) (hst:s'.st=s.st) (hB:cd c.size (ct c s) B)
  (h:aU (gF a c s.R s.T s.L s'.evs s'.miss s.st (bA c s) B (aF c s)) w f):(aB a c s').on w f:=by
 have e1:ct c s'=ct c s:=by unfold ct jx bH;rw[hT,hm]
 have e2:bA c s'=bA c s:=by unfold bA iq;rw[hT]
 have e3:aF c s'=aF c s:=by funext p;unfold aF iq;rw[hT,hL]
 refine⟨B,by rw[e1];exact hB,?_⟩;rw[e2,e3,hR,hT,hL,hst];exact h
section
variable {F:List Nat} {W w:World} {cs:List ai} {a:HA} {c:HC} {s:HS} {evb:Nat} {ep eop eh earg:Int}
theorem xT (hS:af F W (aB a c s::aj evb (.cells #[.int .i64 ep,.int .i64 eop,.int .u64 eh,.int .u64 earg,.int .i64 0] 100 (0,0))::cs) w) (fv:Value) (hst:s.st ep≠1):
  Calls Tryz.prog 40 #[.pointer (some ⟨a.hb,0,none⟩),.pointer (some ⟨evb,0,none⟩),fv] w fun e w'=>e=.returned (.int .i64 15)∧Mod [] w w':=by
 obtain⟨B,hB,hS0⟩:=eE hS;have hal:=zh fun w' (hm:Mod [] w w')=>p7 (hm.at (hS0.block 0 rfl) (by simp)) (nh 7 (hS0.then hm) rfl) ep
 have hce:=ae (hS0.block 8 rfl);have hd:decide (s.st ep=1)=false:=by simpa using hst
 rw[hd]at hal;clear hS hS0 hd hst hB;go_enter Tryz.func40,Tryz.ntmps40;go_wp2_with fail;refine(hal.out _ (Mod.refl _ _)).mono ?_;rintro e w1 ⟨rfl,hm⟩;have hmH:=zh hm;clear hm hal;go_wp2_with fail;go_ret;exact⟨rfl,hmH.out⟩
theorem D9 (hS:af F W (aB a c s::aj evb (.cells #[.int .i64 ep,.int .i64 eop,.int .u64 eh,.int .u64 earg,.int .i64 0] 100 (0,0))::cs) w) (fv:Value) (hst:s.st ep=1) (hr:room c s ep=false) (ho:eop≠3∧eop≠5) (hml:s.miss.length≤1000000):
  Calls Tryz.prog 40 #[.pointer (some ⟨a.hb,0,none⟩),.pointer (some ⟨evb,0,none⟩),fv] w fun e w'=>e=.returned (.int .i64 19)∧af F W (aB a c {s with miss:=s.miss++[ep]}::aj evb (.cells #[.int .i64 ep,.int .i64 eop,.int .u64 eh,.int .u64 earg,.int .i64 0] 100 (0,0))::cs) w':=by
 obtain⟨B,hB,hS0⟩:=eE hS;have hal:=zh fun w' (hm:Mod [] w w')=>p7 (hm.at (hS0.block 0 rfl) (by simp)) (nh 7 (hS0.then hm) rfl) ep
 have hrm:=zh fun w' (hm:Mod [] w w')=>qk (((hS0.then hm).part 6 rfl).choose_spec.1) ep
 have hmi:=zh fun w' f' (h':(dG a.gb c.cap s.evs s.miss).on w' f')=>pI h' hml ep
 have hce:=ae (hS0.block 8 rfl);have hd:decide (s.st ep=1)=true:=by simpa using hst
 rw[hd]at hal;have hr':decide ((b5 s.evs ep:Int)<c.cap)=false:=hr;rw[hr']at hrm;have hS0H:=zh hS0;have hBH:=zh hB;have e3:(eop != 3)=true:=by simpa using ho.1
 have e5:(eop != 5)=true:=by simpa using ho.2
 clear hS hS0 hd hst hB hr hr' ho;go_enter Tryz.func40,Tryz.ntmps40;go_wp2_with fail;refine(hal.out _ (Mod.refl _ _)).mono ?_;rintro e w1 ⟨rfl,hm⟩;have hmH:=zh hm;have hce:=ae ((hS0H.out.then hm).block 8 rfl);have hch:=ae ((hS0H.out.then hm).block 0 rfl);clear hm hal;go_wp2_with fail;refine(hrm.out _ hmH.out).mono ?_;rintro e w2 ⟨rfl,hm⟩;have hS2:=zh (hS0H.out.then (hmH.out.ag hm));have hch:=ae (hS2.out.block 0 rfl);clear hm hrm hmH hS0H;go_wp2_with fail;obtain⟨fl,hl,hput⟩:=hS2.out.part 6 rfl;refine(hmi.out _ _ hl).mono ?_;rintro e w3 ⟨f',rfl,q1,q2,q3⟩;have hS3:=zh (hput w3 f' _ q1 q2 q3);clear hl hput q1 q2 q3 hS2 hmi;go_wp2_with fail;go_ret;exact⟨rfl,af.js (c:=aB a c {s with miss:=s.miss++[ep]}) (gF a c s.R s.T s.L s.evs (s.miss++[ep]) s.st (bA c s) B (aF c s)) hS3.out fun g hg=>mj rfl rfl rfl rfl rfl hBH.out hg⟩
theorem y5 (hS:af F W (aB a c s::aj evb (.cells #[.int .i64 ep,.int .i64 eop,.int .u64 eh,.int .u64 earg,.int .i64 0] 100 (0,0))::cs) w) (hst:s.st ep=1) (hr:eop≠3∧eop≠5→room c s ep=true)
  {g:FuncId} {lb:Array Value} (eg:∀args w,(callFunc g args).run Tryz.prog w=.ok (.enter g args) w) {s':HS} {cs':List ai} {h1 r:Int} (hok:Ev.ok ⟨ep,eop,h1,earg,r⟩) (hcn:Ev.counts ⟨ep,eop,h1,earg,r⟩=true) (hel:s'.evs.length≤100000) (hml:s'.miss.length≤1000000)
  (hdo:∀w',af F W (aB a c s::aj evb (.cells #[.int .i64 ep,.int .i64 eop,.int .u64 eh,.int .u64 earg,.int .i64 0] 100 (0,0))::cs) w'→Calls Tryz.prog g lb w' fun e w''=>e=.returned (.int .i64 r)∧af F W (aB a c s'::aj evb (.cells #[.int .i64 ep,.int .i64 eop,.int .u64 h1,.int .u64 earg,.int .i64 0] 100 (0,0))::cs') w''):
  Calls Tryz.prog 40 #[.pointer (some ⟨a.hb,0,none⟩),.pointer (some ⟨evb,0,none⟩),.func (.func g) #[] lb] w fun e w'=>e=.returned (.int .i64 r)∧af F W (aB a c (if(eop=3∨eop=5)∧r=0 then s' else eK c s' ⟨ep,eop,h1,earg,r⟩)::aj evb (.cells #[.int .i64 ep,.int .i64 eop,.int .u64 h1,.int .u64 earg,.int .i64 r] 100 (0,0))::cs') w':=by
 obtain⟨sf,hsf⟩:∃sf,(if(eop=3∨eop=5)∧r=0 then s' else eK c s' ⟨ep,eop,h1,earg,r⟩)=sf:=⟨_,rfl⟩;rw[hsf];have hsfH:=zh hsf;obtain⟨B,hB,hS0⟩:=eE hS;have hal:=zh fun w' (hm:Mod [] w w')=>p7 (hm.at (hS0.block 0 rfl) (by simp)) (nh 7 (hS0.then hm) rfl) ep
 have hrm:=zh fun w' (hm:Mod [] w w')=>qk (((hS0.then hm).part 6 rfl).choose_spec.1) ep
 have hce:=ae (hS0.block 8 rfl);clear hsf;have hd:decide (s.st ep=1)=true:=by simpa using hst
 rw[hd]at hal;have hS0H:=zh hS0;have hSH:=zh hS;have hdoH:=zh hdo;have hrH:=zh hr;clear hS hS0 hd hst hB hr hdo;go_enter Tryz.func40,Tryz.ntmps40;go_wp2_with fail;refine(hal.out _ (Mod.refl _ _)).mono ?_;rintro e w1 ⟨rfl,hm⟩;have hmH:=zh hm;have hce:=ae ((hS0H.out.then hm).block 8 rfl);have hch:=ae ((hS0H.out.then hm).block 0 rfl);clear hm hal;by_cases hq:eop≠3∧eop≠5
 ·have e3:(eop != 3)=true:=by simpa using hq.1
  have e5:(eop != 5)=true:=by simpa using hq.2
  have hr':decide ((b5 s.evs ep:Int)<c.cap)=true:=hrH.out hq;have hif:¬((eop=3∨eop=5)∧r=0):=fun h=>h.1.elim hq.1 hq.2
  have hifH:=zh hif;rw[hr']at hrm;clear hrH hr' hif hq;go_wp2_with fail;refine(hrm.out _ hmH.out).mono ?_;rintro e w2 ⟨rfl,hm⟩;have hS2:=zh (hSH.out.then (hmH.out.ag hm));clear hm hrm hmH hS0H hSH;go_wp2_with fail;refine(hdoH.out _ hS2.out).mono ?_;rintro e w3 ⟨rfl,hS3⟩;have hS3H:=zh hS3;have hce:=ae (hS3.block 1 rfl);have hfe:=ay (hS3.block 1 rfl);clear hS3 hS2 hdoH;have hS4:=zh (hS3H.out.bO 1 rfl 4 (.int .i64 r));go_wp2_with fail;clear hce hfe hS3H;generalize w3.setCell ⟨evb,4,none⟩ (.int .i64 r)=W4 at*;obtain⟨B',hB',hS5⟩:=eE hS4.out;obtain⟨fl,hl,hput,hne⟩:=hS5.dJ 6 rfl;have k1:=GW.cells (S:=fl) (hS5.block 0 rfl) (hne 0 _ _ rfl);have k2:=GW.cells (S:=fl) (hS5.block 8 rfl) (hne 7 _ _ rfl);have hlH:=zh hl;have hputH:=zh hput;have hBH:=zh hB';clear hS5 hl hput hne hB';by_cases hroom:(b5 s'.evs ep:Int)<c.cap
  ·have hap:=zh fun w' (hm:Mod [] W4 w')=>(show Calls Tryz.prog 39 #[.pointer (some ⟨a.gb,0,none⟩),.agg #[.int .i64 ep,.int .i64 eop,.int .u64 h1,.int .u64 earg,.int .i64 r]] w' (bD (dG a.gb c.cap (s'.evs++[⟨ep,eop,h1,earg,r⟩]) s'.miss) (.int .i64 0) w' fl) by
    have:=lX (hlH.out w' hm) hok hel;have e1:gw c.cap s'.evs ⟨ep,eop,h1,earg,r⟩=0:=by unfold gw;rw[if_neg];intro h;exact h.2 hroom
    have e2:gx c.cap s'.evs ⟨ep,eop,h1,earg,r⟩=s'.evs++[⟨ep,eop,h1,earg,r⟩]:=by unfold gx;rw[if_neg];intro h;exact h.2 hroom
    rw[e1,e2]at this;exact this)
   refine bV fl (by kernel_rfl) (by kernel_rfl) ?_;refine sq 7 ?_;refine cE 39 #[.pointer (some ⟨a.gb,0,none⟩),.agg #[.int .i64 ep,.int .i64 eop,.int .u64 h1,.int .u64 earg,.int .i64 r]] (.int .i64 0) rfl Tryz.call39 rfl rfl hap.out ?_;refine sq 1 ?_;refine au fun w5 hw5=> ?_
   have hS6:=zh (hputH.out w5 _ hw5);have hce:=ae (hS6.out.block 8 rfl);clear k1 k2 hap hputH hlH hw5;go_wp2_with fail;go_ret;refine⟨rfl,?_⟩;rw[←hsfH.out,if_neg hifH.out,sS (by unfold room;simpa using hroom)];exact af.js (c:=aB a c {s' with evs:=s'.evs++[⟨ep,eop,h1,earg,r⟩]}) (gF a c s'.R s'.T s'.L (s'.evs++[(⟨ep,eop,h1,earg,r⟩:Ev)]) s'.miss s'.st (bA c s') B' (aF c s')) hS6.out fun g hg=>mj rfl rfl rfl rfl rfl hBH.out hg
  ·have hap:=zh fun w' (hm:Mod [] W4 w')=>(show Calls Tryz.prog 39 #[.pointer (some ⟨a.gb,0,none⟩),.agg #[.int .i64 ep,.int .i64 eop,.int .u64 h1,.int .u64 earg,.int .i64 r]] w' (bD (dG a.gb c.cap s'.evs s'.miss) (.int .i64 19) w' fl) by
    have:=lX (hlH.out w' hm) hok hel;have e1:gw c.cap s'.evs ⟨ep,eop,h1,earg,r⟩=19:=by unfold gw;rw[if_pos ⟨hcn,hroom⟩]
    have e2:gx c.cap s'.evs ⟨ep,eop,h1,earg,r⟩=s'.evs:=by unfold gx;rw[if_pos ⟨hcn,hroom⟩]
    rw[e1,e2]at this;exact this)
   have hmi:=zh fun w' f' (h':(dG a.gb c.cap s'.evs s'.miss).on w' f')=>pI h' hml ep
   refine bV fl (by kernel_rfl) (by kernel_rfl) ?_;refine sq 7 ?_;refine cE 39 #[.pointer (some ⟨a.gb,0,none⟩),.agg #[.int .i64 ep,.int .i64 eop,.int .u64 h1,.int .u64 earg,.int .i64 r]] (.int .i64 19) rfl Tryz.call39 rfl rfl hap.out ?_;refine sq 1 ?_;refine au fun w5 hw5=> ?_
   have hS6:=zh (hputH.out w5 _ hw5);have hch:=ae (hS6.out.block 0 rfl);clear k1 k2 hap hputH hlH hw5;go_wp2_with fail;obtain⟨fm,hl,hput⟩:=hS6.out.part 6 rfl;refine(hmi.out _ _ hl).mono ?_;rintro e w6 ⟨f',rfl,q1,q2,q3⟩;have hS7:=zh (hput w6 f' _ q1 q2 q3);have hce:=ae (hS7.out.block 8 rfl);clear hl hput q1 q2 q3 hS6 hmi hch;go_wp2_with fail;go_ret;refine⟨rfl,?_⟩;rw[←hsfH.out,if_neg hifH.out,ti (by unfold room;simpa using hroom) hcn];exact af.js (c:=aB a c {s' with miss:=s'.miss++[ep]}) (gF a c s'.R s'.T s'.L s'.evs (s'.miss++[ep]) s'.st (bA c s') B' (aF c s')) hS7.out fun g hg=>mj rfl rfl rfl rfl rfl hBH.out hg
 ·have hq':eop=3∨eop=5:=by omega
  clear hq hrH hrm;rcases hq' with rfl|rfl
  ·have hS2:=zh (hSH.out.then hmH.out);clear hmH hS0H hSH;go_wp2_with fail;refine(hdoH.out _ hS2.out).mono ?_;rintro e w3 ⟨rfl,hS3⟩;have hS3H:=zh hS3;have hce:=ae (hS3.block 1 rfl);have hfe:=ay (hS3.block 1 rfl);clear hS3 hS2 hdoH;have hS4:=zh (hS3H.out.bO 1 rfl 4 (.int .i64 r));by_cases hr0:r=0
   ·subst hr0;go_wp2_with fail;go_ret;refine⟨rfl,?_⟩;rw[←hsfH.out,if_pos (by simp)];exact hS4.out
   ·have hr0H:=zh hr0;have er:(r==0)=false:=by simpa using hr0
    clear hr0;go_wp2_with fail;clear hce hfe hS3H;generalize w3.setCell ⟨evb,4,none⟩ (.int .i64 r)=W4 at*;obtain⟨B',hB',hS5⟩:=eE hS4.out;obtain⟨fl,hl,hput,hne⟩:=hS5.dJ 6 rfl;have k1:=GW.cells (S:=fl) (hS5.block 0 rfl) (hne 0 _ _ rfl);have k2:=GW.cells (S:=fl) (hS5.block 8 rfl) (hne 7 _ _ rfl);have hlH:=zh hl;have hputH:=zh hput;have hBH:=zh hB';clear hS5 hl hput hne hB';by_cases hroom:(b5 s'.evs ep:Int)<c.cap
    ·have hap:=zh fun w' (hm:Mod [] W4 w')=>(show Calls Tryz.prog 39 #[.pointer (some ⟨a.gb,0,none⟩),.agg #[.int .i64 ep,.int .i64 3,.int .u64 h1,.int .u64 earg,.int .i64 r]] w' (bD (dG a.gb c.cap (s'.evs++[⟨ep,3,h1,earg,r⟩]) s'.miss) (.int .i64 0) w' fl) by
      have:=lX (hlH.out w' hm) hok hel;have e1:gw c.cap s'.evs ⟨ep,3,h1,earg,r⟩=0:=by unfold gw;rw[if_neg];intro h;exact h.2 hroom
      have e2:gx c.cap s'.evs ⟨ep,3,h1,earg,r⟩=s'.evs++[⟨ep,3,h1,earg,r⟩]:=by unfold gx;rw[if_neg];intro h;exact h.2 hroom
      rw[e1,e2]at this;exact this)
     refine bV fl (by kernel_rfl) (by kernel_rfl) ?_;refine sq 7 ?_;refine cE 39 #[.pointer (some ⟨a.gb,0,none⟩),.agg #[.int .i64 ep,.int .i64 3,.int .u64 h1,.int .u64 earg,.int .i64 r]] (.int .i64 0) rfl Tryz.call39 rfl rfl hap.out ?_;refine sq 1 ?_;refine au fun w5 hw5=> ?_
     have hS6:=zh (hputH.out w5 _ hw5);have hce:=ae (hS6.out.block 8 rfl);clear k1 k2 hap hputH hlH hw5;go_wp2_with fail;go_ret;refine⟨rfl,?_⟩;rw[←hsfH.out,if_neg (fun h=>hr0H.out h.2),sS (by unfold room;simpa using hroom)];exact af.js (c:=aB a c {s' with evs:=s'.evs++[⟨ep,3,h1,earg,r⟩]}) (gF a c s'.R s'.T s'.L (s'.evs++[(⟨ep,3,h1,earg,r⟩:Ev)]) s'.miss s'.st (bA c s') B' (aF c s')) hS6.out fun g hg=>mj rfl rfl rfl rfl rfl hBH.out hg
    ·have hap:=zh fun w' (hm:Mod [] W4 w')=>(show Calls Tryz.prog 39 #[.pointer (some ⟨a.gb,0,none⟩),.agg #[.int .i64 ep,.int .i64 3,.int .u64 h1,.int .u64 earg,.int .i64 r]] w' (bD (dG a.gb c.cap s'.evs s'.miss) (.int .i64 19) w' fl) by
      have:=lX (hlH.out w' hm) hok hel;have e1:gw c.cap s'.evs ⟨ep,3,h1,earg,r⟩=19:=by unfold gw;rw[if_pos ⟨hcn,hroom⟩]
      have e2:gx c.cap s'.evs ⟨ep,3,h1,earg,r⟩=s'.evs:=by unfold gx;rw[if_pos ⟨hcn,hroom⟩]
      rw[e1,e2]at this;exact this)
     have hmi:=zh fun w' f' (h':(dG a.gb c.cap s'.evs s'.miss).on w' f')=>pI h' hml ep
     refine bV fl (by kernel_rfl) (by kernel_rfl) ?_;refine sq 7 ?_;refine cE 39 #[.pointer (some ⟨a.gb,0,none⟩),.agg #[.int .i64 ep,.int .i64 3,.int .u64 h1,.int .u64 earg,.int .i64 r]] (.int .i64 19) rfl Tryz.call39 rfl rfl hap.out ?_;refine sq 1 ?_;refine au fun w5 hw5=> ?_
     have hS6:=zh (hputH.out w5 _ hw5);have hch:=ae (hS6.out.block 0 rfl);clear k1 k2 hap hputH hlH hw5;go_wp2_with fail;obtain⟨fm,hl,hput⟩:=hS6.out.part 6 rfl;refine(hmi.out _ _ hl).mono ?_;rintro e w6 ⟨f',rfl,q1,q2,q3⟩;have hS7:=zh (hput w6 f' _ q1 q2 q3);have hce:=ae (hS7.out.block 8 rfl);clear hl hput q1 q2 q3 hS6 hmi hch;go_wp2_with fail;go_ret;refine⟨rfl,?_⟩;rw[←hsfH.out,if_neg (fun h=>hr0H.out h.2),ti (by unfold room;simpa using hroom) hcn];exact af.js (c:=aB a c {s' with miss:=s'.miss++[ep]}) (gF a c s'.R s'.T s'.L s'.evs (s'.miss++[ep]) s'.st (bA c s') B' (aF c s')) hS7.out fun g hg=>mj rfl rfl rfl rfl rfl hBH.out hg
  ·have hS2:=zh (hSH.out.then hmH.out);clear hmH hS0H hSH;go_wp2_with fail;refine(hdoH.out _ hS2.out).mono ?_;rintro e w3 ⟨rfl,hS3⟩;have hS3H:=zh hS3;have hce:=ae (hS3.block 1 rfl);have hfe:=ay (hS3.block 1 rfl);clear hS3 hS2 hdoH;have hS4:=zh (hS3H.out.bO 1 rfl 4 (.int .i64 r));by_cases hr0:r=0
   ·subst hr0;go_wp2_with fail;go_ret;refine⟨rfl,?_⟩;rw[←hsfH.out,if_pos (by simp)];exact hS4.out
   ·have hr0H:=zh hr0;have er:(r==0)=false:=by simpa using hr0
    clear hr0;go_wp2_with fail;clear hce hfe hS3H;generalize w3.setCell ⟨evb,4,none⟩ (.int .i64 r)=W4 at*;obtain⟨B',hB',hS5⟩:=eE hS4.out;obtain⟨fl,hl,hput,hne⟩:=hS5.dJ 6 rfl;have k1:=GW.cells (S:=fl) (hS5.block 0 rfl) (hne 0 _ _ rfl);have k2:=GW.cells (S:=fl) (hS5.block 8 rfl) (hne 7 _ _ rfl);have hlH:=zh hl;have hputH:=zh hput;have hBH:=zh hB';clear hS5 hl hput hne hB';by_cases hroom:(b5 s'.evs ep:Int)<c.cap
    ·have hap:=zh fun w' (hm:Mod [] W4 w')=>(show Calls Tryz.prog 39 #[.pointer (some ⟨a.gb,0,none⟩),.agg #[.int .i64 ep,.int .i64 5,.int .u64 h1,.int .u64 earg,.int .i64 r]] w' (bD (dG a.gb c.cap (s'.evs++[⟨ep,5,h1,earg,r⟩]) s'.miss) (.int .i64 0) w' fl) by
      have:=lX (hlH.out w' hm) hok hel;have e1:gw c.cap s'.evs ⟨ep,5,h1,earg,r⟩=0:=by unfold gw;rw[if_neg];intro h;exact h.2 hroom
      have e2:gx c.cap s'.evs ⟨ep,5,h1,earg,r⟩=s'.evs++[⟨ep,5,h1,earg,r⟩]:=by unfold gx;rw[if_neg];intro h;exact h.2 hroom
      rw[e1,e2]at this;exact this)
     refine bV fl (by kernel_rfl) (by kernel_rfl) ?_;refine sq 7 ?_;refine cE 39 #[.pointer (some ⟨a.gb,0,none⟩),.agg #[.int .i64 ep,.int .i64 5,.int .u64 h1,.int .u64 earg,.int .i64 r]] (.int .i64 0) rfl Tryz.call39 rfl rfl hap.out ?_;refine sq 1 ?_;refine au fun w5 hw5=> ?_
     have hS6:=zh (hputH.out w5 _ hw5);have hce:=ae (hS6.out.block 8 rfl);clear k1 k2 hap hputH hlH hw5;go_wp2_with fail;go_ret;refine⟨rfl,?_⟩;rw[←hsfH.out,if_neg (fun h=>hr0H.out h.2),sS (by unfold room;simpa using hroom)];exact af.js (c:=aB a c {s' with evs:=s'.evs++[⟨ep,5,h1,earg,r⟩]}) (gF a c s'.R s'.T s'.L (s'.evs++[(⟨ep,5,h1,earg,r⟩:Ev)]) s'.miss s'.st (bA c s') B' (aF c s')) hS6.out fun g hg=>mj rfl rfl rfl rfl rfl hBH.out hg
    ·have hap:=zh fun w' (hm:Mod [] W4 w')=>(show Calls Tryz.prog 39 #[.pointer (some ⟨a.gb,0,none⟩),.agg #[.int .i64 ep,.int .i64 5,.int .u64 h1,.int .u64 earg,.int .i64 r]] w' (bD (dG a.gb c.cap s'.evs s'.miss) (.int .i64 19) w' fl) by
      have:=lX (hlH.out w' hm) hok hel;have e1:gw c.cap s'.evs ⟨ep,5,h1,earg,r⟩=19:=by unfold gw;rw[if_pos ⟨hcn,hroom⟩]
      have e2:gx c.cap s'.evs ⟨ep,5,h1,earg,r⟩=s'.evs:=by unfold gx;rw[if_pos ⟨hcn,hroom⟩]
      rw[e1,e2]at this;exact this)
     have hmi:=zh fun w' f' (h':(dG a.gb c.cap s'.evs s'.miss).on w' f')=>pI h' hml ep
     refine bV fl (by kernel_rfl) (by kernel_rfl) ?_;refine sq 7 ?_;refine cE 39 #[.pointer (some ⟨a.gb,0,none⟩),.agg #[.int .i64 ep,.int .i64 5,.int .u64 h1,.int .u64 earg,.int .i64 r]] (.int .i64 19) rfl Tryz.call39 rfl rfl hap.out ?_;refine sq 1 ?_;refine au fun w5 hw5=> ?_
     have hS6:=zh (hputH.out w5 _ hw5);have hch:=ae (hS6.out.block 0 rfl);clear k1 k2 hap hputH hlH hw5;go_wp2_with fail;obtain⟨fm,hl,hput⟩:=hS6.out.part 6 rfl;refine(hmi.out _ _ hl).mono ?_;rintro e w6 ⟨f',rfl,q1,q2,q3⟩;have hS7:=zh (hput w6 f' _ q1 q2 q3);have hce:=ae (hS7.out.block 8 rfl);clear hl hput q1 q2 q3 hS6 hmi hch;go_wp2_with fail;go_ret;refine⟨rfl,?_⟩;rw[←hsfH.out,if_neg (fun h=>hr0H.out h.2),ti (by unfold room;simpa using hroom) hcn];exact af.js (c:=aB a c {s' with miss:=s'.miss++[ep]}) (gF a c s'.R s'.T s'.L s'.evs (s'.miss++[ep]) s'.st (bA c s') B' (aF c s')) hS7.out fun g hg=>mj rfl rfl rfl rfl rfl hBH.out hg
end
end Go.Proofs.YtdehaommhbjakaaGreat
namespace Go.Proofs.YtdehaommhbjakaaGreat
open RowKit Stg
theorem size_alloc (w:World) (o:Obj):(w.alloc o).heap.size=w.heap.size+1:=by simp
theorem kC {c:HC} {k:Nat} {s:HS} (_:az c k s) (p o acc:Int):0≤aV s p o acc∧aV s p o acc≤29:=by
 unfold aV Tb.bF Bw.kZ
 repeat' split
 all_goals omega
theorem lD {F:List Nat} {W w:World} {cs:List ai} {a:HA} {c:HC} {k:Nat} {s:HS} {evb:Nat} {ep eop eh earg:Int} (hI:az c k s) (hk:k≤1000)
  (hS:af F W (aB a c s::aj evb (.cells #[.int .i64 ep,.int .i64 eop,.int .u64 eh,.int .u64 earg,.int .i64 0] 100 (0,0))::cs) w) (ho:eop≠3∧eop≠5) (ho2:1≤eop∧eop≤11) (ha:0≤earg∧earg≤18446744073709551615)
  {g:FuncId} {lb:Array Value} (eg:∀args w,(callFunc g args).run Tryz.prog w=.ok (.enter g args) w) {rs:Int×HS} {h1:Int} (hr:0≤rs.1∧rs.1≤29) (hh:0≤h1∧h1≤18446744073709551615) (he:rs.2.evs=s.evs) (hms:rs.2.miss=s.miss)
  (hdo:s.st ep=1→∀w',af F W (aB a c s::aj evb (.cells #[.int .i64 ep,.int .i64 eop,.int .u64 eh,.int .u64 earg,.int .i64 0] 100 (0,0))::cs) w'→Calls Tryz.prog g lb w' fun e w''=>e=.returned (.int .i64 rs.1)∧af F W (aB a c rs.2::aj evb (.cells #[.int .i64 ep,.int .i64 eop,.int .u64 h1,.int .u64 earg,.int .i64 0] 100 (0,0))::cs) w''):
  Calls Tryz.prog 40 #[.pointer (some ⟨a.hb,0,none⟩),.pointer (some ⟨evb,0,none⟩),.func (.func g) #[] lb] w fun e w'=>e=.returned (.int .i64 (act c s ep eop h1 earg rs).1)∧
   ∃eh2 er2,af F W (aB a c (act c s ep eop h1 earg rs).2::aj evb (.cells #[.int .i64 ep,.int .i64 eop,.int .u64 eh2,.int .u64 earg,.int .i64 er2] 100 (0,0))::cs) w'∧((act c s ep eop h1 earg rs).1=0→eh2=h1):=by
 have hel:=hI.kz;have hml:=hI.lM;by_cases hst:s.st ep=1
 ·cases hroom:room c s ep with
  |false=>
   have e1:act c s ep eop h1 earg rs=(19,{s with miss:=s.miss++[ep]}):=by unfold act;rw[if_neg (by simp[hst]),if_pos hroom]
   rw[e1];refine(D9 hS _ hst hroom ho (by omega)).mono ?_;rintro e w' ⟨he,hS'⟩;exact⟨he,eh,0,hS',fun h=>absurd h (by simp)⟩
  |true=>
   have e1:act c s ep eop h1 earg rs=(rs.1,eK c rs.2 ⟨ep,eop,h1,earg,rs.1⟩):=by unfold act;rw[if_neg (by simp[hst]),if_neg (by simp[hroom])]
   rw[e1];have hp:=hI.alive hst;refine(y5 hS hst (fun _=>hroom) eg (s':=rs.2) (cs':=cs) (h1:=h1) (r:=rs.1) ⟨hp,.inl ho2,hh,ha,hr⟩ (by simp[Ev.counts];omega) (by rw[he];omega) (by rw[hms];omega) (hdo hst)).mono ?_;rintro e w' ⟨he,hS'⟩;rw[if_neg (by omega)]at hS';exact⟨he,h1,rs.1,hS',fun _=>rfl⟩
 ·have e1:act c s ep eop h1 earg rs=(15,s):=by unfold act;rw[if_pos hst]
  rw[e1];refine(xT hS _ hst).mono ?_;rintro e w' ⟨he,hm⟩;exact⟨he,eh,0,hS.then hm,fun h=>absurd h (by simp)⟩
theorem vZ {F:List Nat} {W w:World} {cs cs':List ai} {a:HA} {c:HC} {k:Nat} {s:HS} {evb:Nat} {ep eop eh earg r:Int} (hI:az c k s) (hk:k≤1000)
  (hS:af F W (aB a c s::aj evb (.cells #[.int .i64 ep,.int .i64 eop,.int .u64 eh,.int .u64 earg,.int .i64 0] 100 (0,0))::cs) w) (ho:eop=3∨eop=5) (ha:0≤earg∧earg≤18446744073709551615)
  {g:FuncId} {lb:Array Value} (eg:∀args w,(callFunc g args).run Tryz.prog w=.ok (.enter g args) w) (hr:0≤r∧r≤29) (hh:0≤eh∧eh≤18446744073709551615)
  (hdo:s.st ep=1→∀w',af F W (aB a c s::aj evb (.cells #[.int .i64 ep,.int .i64 eop,.int .u64 eh,.int .u64 earg,.int .i64 0] 100 (0,0))::cs) w'→Calls Tryz.prog g lb w' fun e w''=>e=.returned (.int .i64 r)∧af F W (aB a c s::aj evb (.cells #[.int .i64 ep,.int .i64 eop,.int .u64 eh,.int .u64 earg,.int .i64 0] 100 (0,0))::cs') w''):
  Calls Tryz.prog 40 #[.pointer (some ⟨a.hb,0,none⟩),.pointer (some ⟨evb,0,none⟩),.func (.func g) #[] lb] w fun e w'=>e=.returned (.int .i64 (gB c s ep eop eh earg r).1)∧
   ∃er2 cs2,af F W (aB a c (gB c s ep eop eh earg r).2::aj evb (.cells #[.int .i64 ep,.int .i64 eop,.int .u64 eh,.int .u64 earg,.int .i64 er2] 100 (0,0))::cs2) w'∧(s.st ep≠1∧cs2=cs∨s.st ep=1∧cs2=cs'):=by
 have hel:=hI.kz;have hml:=hI.lM;by_cases hst:s.st ep=1
 ·have hp:=hI.alive hst;have h2:=y5 hS hst (fun h=>absurd ho (by omega)) eg (s':=s) (cs':=cs') (h1:=eh) (r:=r) ⟨hp,.inl (show 1≤eop∧eop≤11 by omega),hh,ha,hr⟩ (by simp[Ev.counts];omega) (by omega) (by omega) (hdo hst);by_cases h0:r=0
  ·have e1:gB c s ep eop eh earg r=(0,s):=by unfold gB;rw[if_neg (by simp[hst]),if_pos h0]
   rw[e1];refine h2.mono ?_;rintro e w' ⟨he,hS'⟩;rw[if_pos ⟨ho,h0⟩]at hS';subst h0;exact⟨he,0,cs',hS',.inr ⟨hst,rfl⟩⟩
  ·have e1:gB c s ep eop eh earg r=(r,eK c s ⟨ep,eop,eh,earg,r⟩):=by unfold gB;rw[if_neg (by simp[hst]),if_neg h0]
   rw[e1];refine h2.mono ?_;rintro e w' ⟨he,hS'⟩;rw[if_neg fun h=>h0 h.2]at hS';exact⟨he,r,cs',hS',.inr ⟨hst,rfl⟩⟩
 ·have e1:gB c s ep eop eh earg r=(15,s):=by unfold gB;rw[if_pos hst]
  rw[e1];refine(xT hS _ hst).mono ?_;rintro e w' ⟨he,hm⟩;exact⟨he,0,cs,hS.then hm,.inl ⟨hst,rfl⟩⟩
end Go.Proofs.YtdehaommhbjakaaGreat
namespace Go.Proofs.YtdehaommhbjakaaGreat
open RowKit Stg
open Ty (aw)
theorem aw.laid {w:World} {v:Value} {fs:List Ty.aM} {p:Nat} {x:Value} {m:Option Addr} {n k:Nat} (h:aw w v fs) (hp:w.heap[p]? =some (.cells #[x,.slice m n k] 54 (0,0))) (u0 u1:Value):
  aw ((w.setCell ⟨p,0,none⟩ u0).setCell ⟨p,1,none⟩ u1) v fs:=by
 rcases h with h|⟨sb,so,cap,rfl,h2,h3,h4⟩
 ·exact .inl h
 ·refine .inr ⟨sb,so,cap,rfl,by simpa using h2,h3,fun i hi=> ?_⟩;by_cases e:sb=p
  ·exfalso;subst e;obtain⟨q1,q2⟩:=h4 i hi;rw[ae hp]at q1 q2;obtain⟨z,hz⟩:∃z,so+i*2=z:=⟨_,rfl⟩;rw[hz]at q1 q2
   match z,q1,q2 with
   |0,q1,q2=>simp at q2
   |1,q1,q2=>simp at q1
   |z+2,q1,q2=>simp at q1
  ·have hm:=((Mod.refl [p] w).setCell (p:=⟨p,0,none⟩) (.inl (by simp)) u0).setCell (p:=⟨p,1,none⟩) (.inl (by simp)) u1;rw[Ty.bg hm h2 (by simpa using e),Ty.bg hm h2 (by simpa using e)];exact h4 i hi
def Typed (W:World) (p:Nat) (t:Ty.Ty) (v:Value) (w:World):Prop:=Mod [] W w∧W.heap.size≤p∧w.heap[p]? =some (.cells #[.int .i64 t.1,v] 54 (0,0))∧aw w v t.2
theorem Typed.set {W w:World} {p:Nat} {t:Ty.Ty} {v:Value} (hm:Mod [] W w) (hp:W.heap.size≤p) (hb:w.heap[p]? =some (.cells #[.int .i64 0,.slice none 0 0] 54 (0,0))) (hf:aw w v t.2):
  Typed W p t v ((w.setCell ⟨p,0,none⟩ (.int .i64 t.1)).setCell ⟨p,1,none⟩ v):=
 ⟨(hm.setCell (p:=⟨p,0,none⟩) (.inr hp) _).setCell (p:=⟨p,1,none⟩) (.inr hp) _,hp,by simpa using aq (o:=1) (v:=v) (aq (o:=0) (v:=.int .i64 t.1) hb),aw.laid hf hb _ _⟩
theorem wC {a:HA} {R:List Ty.Ty} {w:World} {f:List Nat} (hb:w.heap[a.hb]? =some (jX a)) (hr:(Ty.dN 156 a.rt R).on w f) (x:Tb.bP):
  Calls Tryz.prog 142 #[.pointer (some ⟨a.hb,0,none⟩),Tb.b8 x] w fun e w'=>∃v,e=.returned (.agg #[.int .i64 (Ty.aN R x.tag).1,v])∧aw w' v (Ty.aN R x.tag).2∧Mod [] w w':=by
 obtain⟨h,owner,tag,off,len⟩:=x;simp only[Tb.b8];have hm0:=zh (((Mod.refl [] w).alloc (.cells #[.int .u64 h,.int .i64 owner,.int .i64 tag,.int .i64 off,.int .i64 len] 106)).alloc (.cells #[.int .i64 0,.slice none 0 0] 54));have hlk0:=zh fun w' (hm:Mod [] w w')=>Ty.we (ai.bj (Ty.dN 156 a.rt R) hr hm (by simp)) tag
 have hb0:=zh (hm0.out.at hb (by simp));have hx0:=zh (aI (o:=.cells #[.int .i64 0,.slice none 0 0] 54) (an w (.cells #[.int .u64 h,.int .i64 owner,.int .i64 tag,.int .i64 off,.int .i64 len] 106)));have hy0:=an (w.alloc (.cells #[.int .u64 h,.int .i64 owner,.int .i64 tag,.int .i64 off,.int .i64 len] 106)) (.cells #[.int .i64 0,.slice none 0 0] 54);rw[show(w.alloc (.cells #[.int .u64 h,.int .i64 owner,.int .i64 tag,.int .i64 off,.int .i64 len] 106)).heap.size=w.heap.size+1 by simp]at hy0;have hy0:=zh hy0;clear hb hr;go_enter Tryz.func142,Tryz.ntmps142;go_wp2_with fail;generalize hW0:(w.alloc (.cells #[.int .u64 h,.int .i64 owner,.int .i64 tag,.int .i64 off,.int .i64 len] 106)).alloc (.cells #[.int .i64 0,.slice none 0 0] 54)=W0 at*;have hlk:=zh fun w' (hm:Mod [] W0 w')=>hlk0.out w' (hm0.out.ag hm)
 have k1:=GW.cells (S:=[]) hb0.out (by simp);have k2:=GW.cells (S:=[]) hx0.out (by simp);refine iQ 10 _ (fun w'=>∃x:GW [] W0,w'=x.1) (fun w'=>Mod [] W0 w') (by kernel_rfl) rfl rfl (by kernel_rfl) (by kernel_rfl) (fun _ h=>ah.of h) (Mod.refl _ _).drew ?_;dsimp only[List.getElem_toArray,List.getElem_cons_succ,List.getElem_cons_zero];refine dd 6 (by kernel_rfl) (by decide) ?_;simp only[tA,tB,tC,tD,Nat.reduceAdd];(repeat go_big_quiet_step (fail));refine wpQuiet_nil ?_;refine fh (by decide) rfl rfl ?A rfl (by simp) ?B
 case A=>
  refine Tb.jf 100 #[.pointer (some ⟨a.rt,0,none⟩),.int .i64 tag] (fun v=>∃m n k,v=.tuple #[.agg #[.int .i64 (Ty.aN R tag).1,.slice m n k],.int .i64 (Ty.ee R tag)]) (fun v w'=>Mod [] W0 w'∧∃u,v=.tuple #[.agg #[.int .i64 (Ty.aN R tag).1,u],.int .i64 (Ty.ee R tag)]∧aw w' u (Ty.aN R tag).2) rfl Tryz.call100 rfl ⟨_,none,0,0,rfl⟩ (fun w' hw=> ?_) (fun v w' h=>ah.of h.1) (fun v hv=> ?_)
  ·refine(hlk.out w' hw).mono ?_;rintro e w'' ⟨u,rfl,h1,h2⟩;obtain⟨um,un,uc,rfl⟩:=Ty.aw.slice h1;exact⟨_,rfl,⟨_,_,_,rfl⟩,hw.ag h2,_,rfl,h1⟩
  obtain⟨vm,vn,vc,rfl⟩:=hv;simp only[Act.put,sA,sB,sC];refine dd 3 (by kernel_rfl) (by decide) ?_;simp only[tA,tB,tC,tD,Nat.reduceAdd];(repeat go_big_quiet_step (fail));refine wpQuiet_nil ?_;refine ia ?_;refine aO (fun p=>.pointer (some ⟨p,0,none⟩)) (.cells #[.int .i64 0,.slice none 0 0] 54 (0,0)) (fun p w'=>Mod [] W0 w'∧W0.heap.size≤p∧w'.heap[p]? =some (.cells #[.int .i64 0,.slice none 0 0] 54 (0,0))∧aw w' (.slice vm vn vc) (Ty.aN R tag).2) (by intro s s' h;simpa using h) rfl rfl (fun w' hw=> ?_) (fun w' hw=> ?_) (fun p w' h=>ah.of h.1) (fun p=> ?_)
  ·kernel_rfl
  ·obtain⟨h1,u,hu,h2⟩:=hw;obtain rfl:u=.slice vm vn vc:=by simpa using hu.symm
   exact⟨h1.alloc _,h1.size,an _ _,h2.mod ((Mod.refl [] _).alloc _)⟩
  simp only[Act.put,sA,sB,sC];refine cQ (p:=⟨p,0,none⟩) (u:=.agg #[.int .i64 (Ty.aN R tag).1,.slice vm vn vc]) (fun w'=>(w'.setCell ⟨p,0,none⟩ (.int .i64 (Ty.aN R tag).1)).setCell ⟨p,1,none⟩ (.slice vm vn vc)) (Typed W0 p (Ty.aN R tag) (.slice vm vn vc)) rfl rfl rfl rfl rfl (fun w' hw=> ?_) (fun w' hw=>Typed.set hw.1 hw.2.1 hw.2.2.1 hw.2.2.2) (fun w' h=>ah.of h.1) ?_
  ·have d1:=ae hw.2.2.1;have d2:=ay hw.2.2.1;clear k1 k2 hw;go_simp
  refine sq 1 ?_;refine au fun w1 br=> ?_
  obtain⟨hm1,hp,hbp,hf⟩:=br;have hm1H:=zh (hm0.out.ag hm1);have hp1:=zh hbp;have hf1:=zh hf;have hy1:=zh (hm1.at hy0.out (by simp));have c1:=ae hbp;have c2:=ae (hm1.at hy0.out (by simp));have f2:=ay (hm1.at hy0.out (by simp));clear k1 k2 hm1 hbp hf hp hlk hlk0 hb0 hx0 hy0 hm0;go_wp2_with fail;have u1:=aq (o:=1) (v:=.slice vm vn vc) (aq (o:=0) (v:=.int .i64 (Ty.aN R tag).1) hy1.out);refine bodyPost_ret (results_cell_row Tryz.results142 _ _ (w.heap.size+1) 54 _ _ _ rfl u1 Tryz.underlying54 rfl (by kernel_rfl)) rfl ?_;refine⟨.slice vm vn vc,rfl,aw.laid hf1.out hy1.out _ _,?_⟩;exact(hm1H.out.setCell (p:=⟨w.heap.size+1,0,none⟩) (.inr (by simp)) _).setCell (p:=⟨w.heap.size+1,1,none⟩) (.inr (by simp)) _
 case B=>
  simp only[Nat.reduceSub,List.eraseIdx_cons_succ,List.eraseIdx_cons_zero];refine aO (fun p=>.pointer (some ⟨p,0,none⟩)) (.cells #[.int .i64 0,.slice none 0 0] 54 (0,0)) (fun p w'=>Mod [] W0 w'∧W0.heap.size≤p∧w'.heap[p]? =some (.cells #[.int .i64 0,.slice none 0 0] 54 (0,0))) (by intro s s' h;simpa using h) rfl rfl (fun w' hw=> ?_) (fun w' hw=>⟨hw.alloc _,hw.size,an _ _⟩) (fun p w' h=>ah.of h.1) (fun p=> ?_)
  ·kernel_rfl
  simp only[Act.put,sA,sB,sC];refine cD 100 #[.pointer (some ⟨a.rt,0,none⟩),.int .i64 tag] (fun v=>∃m n k,v=.tuple #[.agg #[.int .i64 (Ty.aN R tag).1,.slice m n k],.int .i64 (Ty.ee R tag)]) (fun v w'=>Mod [] W0 w'∧W0.heap.size≤p∧w'.heap[p]? =some (.cells #[.int .i64 0,.slice none 0 0] 54 (0,0))∧∃u,v=.tuple #[.agg #[.int .i64 (Ty.aN R tag).1,u],.int .i64 (Ty.ee R tag)]∧aw w' u (Ty.aN R tag).2) rfl Tryz.call100 rfl rfl ⟨_,none,0,0,rfl⟩ (fun w' hw=> ?_) (fun v w' h=>ah.of h.1) (fun v hv=> ?_)
  ·refine(hlk.out w' hw.1).mono ?_;rintro e w'' ⟨u,rfl,h1,h2⟩;obtain⟨um,un,uc,rfl⟩:=Ty.aw.slice h1;exact⟨_,rfl,⟨_,_,_,rfl⟩,hw.1.ag h2,hw.2.1,h2.at hw.2.2 (by simp),_,rfl,h1⟩
  obtain⟨vm,vn,vc,rfl⟩:=hv;refine sq 3 ?_;refine sy (fun w'=>Mod [] W0 w'∧W0.heap.size≤p∧w'.heap[p]? =some (.cells #[.int .i64 0,.slice none 0 0] 54 (0,0))∧aw w' (.slice vm vn vc) (Ty.aN R tag).2) (fun w' hw=> ?_) ?_
  ·obtain⟨h1,h2,h3,u,hu,h4⟩:=hw;obtain rfl:u=.slice vm vn vc:=by simpa using hu.symm
   exact⟨h1,h2,h3,h4⟩
  refine cQ (p:=⟨p,0,none⟩) (u:=.agg #[.int .i64 (Ty.aN R tag).1,.slice vm vn vc]) (fun w'=>(w'.setCell ⟨p,0,none⟩ (.int .i64 (Ty.aN R tag).1)).setCell ⟨p,1,none⟩ (.slice vm vn vc)) (Typed W0 p (Ty.aN R tag) (.slice vm vn vc)) rfl rfl rfl rfl rfl (fun w' hw=> ?_) (fun w' hw=>Typed.set hw.1 hw.2.1 hw.2.2.1 hw.2.2.2) (fun w' h=>ah.of h.1) ?_
  ·have d1:=ae hw.2.2.1;have d2:=ay hw.2.2.1;clear k1 k2 hw;go_simp
  refine sq 1 ?_;refine au fun w1 br=> ?_
  obtain⟨hm1,hp,hbp,hf⟩:=br;have hm1H:=zh (hm0.out.ag hm1);have hp1:=zh hbp;have hf1:=zh hf;have hy1:=zh (hm1.at hy0.out (by simp));have c1:=ae hbp;have c2:=ae (hm1.at hy0.out (by simp));have f2:=ay (hm1.at hy0.out (by simp));clear k1 k2 hm1 hbp hf hp hlk hlk0 hb0 hx0 hy0 hm0;go_wp2_with fail;have u1:=aq (o:=1) (v:=.slice vm vn vc) (aq (o:=0) (v:=.int .i64 (Ty.aN R tag).1) hy1.out);refine bodyPost_ret (results_cell_row Tryz.results142 _ _ (w.heap.size+1) 54 _ _ _ rfl u1 Tryz.underlying54 rfl (by kernel_rfl)) rfl ?_;refine⟨.slice vm vn vc,rfl,aw.laid hf1.out hy1.out _ _,?_⟩;exact(hm1H.out.setCell (p:=⟨w.heap.size+1,0,none⟩) (.inr (by simp)) _).setCell (p:=⟨w.heap.size+1,1,none⟩) (.inr (by simp)) _
end Go.Proofs.YtdehaommhbjakaaGreat
