/- Host calls: the chapter's example. -/
import Derived.Test.YtgfdeiijblakfaaGreatDoW
import Derived.Laws.BytesArg
import Derived.Test.YtgfdeiijblakfaaGreatC01
import Derived.Test.YtgfdeiijblakfaaGreatC02
import Derived.Test.YtgfdeiijblakfaaGreatC03
import Derived.Test.YtgfdeiijblakfaaGreatC04
import Derived.Test.YtgfdeiijblakfaaGreatC06
import Derived.Test.YtgfdeiijblakfaaGreatC07
import Derived.Test.YtgfdeiijblakfaaGreatC08
import Derived.Test.YtgfdeiijblakfaaGreatC09
import Derived.Test.YtgfdeiijblakfaaGreatC10
import Derived.Test.YtgfdeiijblakfaaGreatC11
import Derived.Test.YtgfdeiijblakfaaGreatC12
import Derived.Test.YtgfdeiijblakfaaGreatC13
import Derived.Test.YtgfdeiijblakfaaGreatC14
import Derived.Test.YtgfdeiijblakfaaGreatC16
import Derived.Test.YtgfdeiijblakfaaGreatC17
import Derived.Test.YtgfdeiijblakfaaGreatC18
import Derived.Test.YtgfdeiijblakfaaGreatC19
import Derived.Test.YtgfdeiijblakfaaGreatC20
import Derived.Test.YtgfdeiijblakfaaGreatC21
import Derived.Test.YtgfdeiijblakfaaGreatC25
import Derived.Test.YtgfdeiijblakfaaGreatC26
import Derived.Test.YtgfdeiijblakfaaGreatC27
import Derived.Test.YtgfdeiijblakfaaGreatC28
import Derived.Test.YtgfdeiijblakfaaGreatC31
import Derived.Test.YtgfdeiijblakfaaGreatC33
import Derived.Test.YtgfdeiijblakfaaGreatC35
import Derived.Test.YtgfdeiijblakfaaGreatC38
import Derived.Test.YtgfdeiijblakfaaGreatC39
import Derived.Test.YtgfdeiijblakfaaGreatX0
import Derived.Test.YtgfdeiijblakfaaGreatCS
set_option maxHeartbeats 4000000
set_option maxRecDepth 20000
namespace Go.Proofs.YtgfdeiijblakfaaGreat
open Go Go.RowKit Go.Stg
theorem awake_ok (w:World):Calls Tryz.prog 9 #[] w fun e w'=>e=.returned (.bool true)∧Mod [] w w':=by
 have hnew0:=hnew_ok (Scene.empty w) (hwF true) (hwF_ok true) (hwF_r true).1 (hwF_r true).2;have hnew0:Calls Tryz.prog 5 #[.agg #[.int .i64 1,.int .i64 64,.int .u32 1,.int .i64 20,.int .i64 64,.int .i64 2,.int .i64 0,.int .i64 1,.int .i64 0]] w fun e w'=>∃a:HA,e=.returned (.tuple #[.pointer (some ⟨a.hb,0,none⟩),.int .i64 0])∧Scene [] w [hpA a (hwC true) (newS (hwC true))] w':=hnew0
 have hnew:=Lib.hid hnew0;clear hnew0;go_enter Tryz.func9,Tryz.ntmps9;go_wp2_with fail;refine hnew.out.mono ?_;rintro e w1 ⟨a,rfl,hS⟩;have hS:=Lib.hid (hS.then ((Mod.refl [] w1).alloc (.cells #[.int .i64 6,.int .i64 4] 35)));have hF:=Ty.fields_one (at_alloc w1 (.cells #[.int .i64 6,.int .i64 4] 35));have hde:=Lib.hid (hdefine_ok hS.out 0 _ _ hF (by omega) (by omega));clear hnew hF;go_wp2_with fail;refine hde.out.mono ?_;rintro e w2 ⟨rfl,hS2⟩;have hS2:Scene [] w [hpA a (hwC true) (hw1 true)] w2:=hS2;have hS2:=Lib.hid hS2;clear hde hS;rw[show Ty.regTag (newS (hwC true)).R (0,[(6,4)])=1 from(hw_reg true).1,show Ty.regErr (newS (hwC true)).R (0,[(6,4)])=0 from(hw_reg true).2];go_wp2_with fail;refine(start_op (s:=hw1 true) (hw_inv1 true) (by omega) hS2.out).mono ?_;rintro e w3 ⟨rfl,hS3⟩;have hS3:Scene [] w [hpA a (hwC true) (hw2 true)] w3:=hS3;have hS4:=((hS3.alloc (.cells #[.int .i64 1] 3)).alloc (.cells #[.int .u64 0] 22)).out 2 rfl;have hal:=live_alloc (hwC_ok true) (hw_inv2 true) (by omega) (p:=1) (t:=1) (d:=0) (by omega) (by omega) (by rw[hw_allocH];exact hwH_range) (by rw[hw_alloc]) hS4;rw[hw_allocHo,hw_alloc]at hal;have hal:=Lib.hid hal;clear hS2 hS3 hS4;go_wp2_with fail;have hal2:=hal.out;rw[World.size_alloc]at hal2;have hal2:=Lib.hid hal2;clear hal;refine hal2.out.mono ?_;rintro e w4 ⟨rfl,hS5⟩;have hS6:=(((hS5.erase 1).erase 1).alloc (.cells #[.int .u64 hwH,.int .u64 1,.int .u64 2,.int .u64 66051] 22)).swap;have hst:=live_store (hwC_ok true) (hw_inv3 true) (by omega) (p:=1) (d:=0) (x0:=hwH) (x1:=1) (v:=66051) (m:=2) (by omega) hwH_range (by omega) (by omega) hS6;obtain⟨t1,t2,t3⟩:=hw_store true 1 (leB 66051 2);rw[show idxI 1=1 from rfl,t1]at hst;have hst:=Lib.hid hst;have t2:=Lib.hid t2;have t3:=Lib.hid t3;clear hal2 hS5 hS6 t1;go_wp2_with fail;refine hst.out.mono ?_;rintro e w5 ⟨rfl,hS7⟩;rw[show(if withinN 1 (leB 66051 2).length (hwN true)=false then(7:Int)else 0)=0 by kernel_rfl];have hI4:=inv_opStore hwH_range.1 hwH_range.2 (hw_inv3 true) 1 1 (leB_bytes 66051 2);have hS8:=hS7.erase 1;obtain⟨u1,u2,u3⟩:=t2.out.load 0 4;have hlb:opLoadB (hwC true) (opStore (hwC true) (hw3 true) 1 hwH 1 (leB 66051 2)).2 1 hwH 0 4=[0,3,2,0]:=by
  unfold opLoadB;rw[u1,if_pos (by kernel_rfl),t3.out];kernel_rfl
 have hld:=load_op (hwC_ok true) hI4 (by omega) (p:=1) (o:=hwH) (off:=0) (n:=4) hwH_range.1 hwH_range.2 hS8;rw[hlb,u1,show(if(4:Int)<0 then(1:Int)else if withinN 0 4 (hwN true)=false then 7 else 0)=0 by kernel_rfl]at hld;have hld:=Lib.hid hld;clear hst hS7 hS8 hI4 u1 u2 u3 hlb t2 t3;go_wp2_with fail;refine hld.out.mono ?_;rintro e w6 ⟨v,rfl,hS9⟩;have hrow:=hS9.row 0 rfl;have hm:=Lib.hid hS9.mod;clear hld hS9;rcases hrow.2 with⟨hn,h0⟩|⟨g,cap,cur,hsl,q2,q3,q4,q5,q6,q7⟩
 ·simp at h0
 ·cases hsl;have hcv:=fun dst hd=>run_convert_bytes_arg (P:=Tryz.prog) w6 81 5 Tryz.underlying81 Tryz.underlying5 g 0 4 cap [0,3,2,0] rfl (fun i hi=>by
   rw[Nat.zero_add,hrow.cellAt i (by simpa using hi)];have:i=0∨i=1∨i=2∨i=3:=by omega
   rcases this with rfl|rfl|rfl|rfl<;>rfl) dst hd
  have hcv:=hcv 9 Tryz.underlying9;clear hrow q2 q3 q4 q5 q6 q7;go_wp2_with fail;go_ret;have hs:((strOfNums [0,3,2,0]).toList== [0,3,2,0])=true:=by kernel_rfl
  exact⟨congrArg (fun b=>Ending.returned (.bool b)) hs,hm.out⟩
end Go.Proofs.YtgfdeiijblakfaaGreat
