/- Host calls over a heap: Alloc, Store, Load. -/
import Derived.Test.YtgfdeiijblakfaaGreatDo
import Derived.Test.YtgfdeiijblakfaaGreatC00
import Derived.Test.YtgfdeiijblakfaaGreatC01
import Derived.Test.YtgfdeiijblakfaaGreatC02
import Derived.Test.YtgfdeiijblakfaaGreatC03
import Derived.Test.YtgfdeiijblakfaaGreatC04
import Derived.Test.YtgfdeiijblakfaaGreatC05
import Derived.Test.YtgfdeiijblakfaaGreatC06
import Derived.Test.YtgfdeiijblakfaaGreatC07
import Derived.Test.YtgfdeiijblakfaaGreatC08
import Derived.Test.YtgfdeiijblakfaaGreatC09
import Derived.Test.YtgfdeiijblakfaaGreatC10
import Derived.Test.YtgfdeiijblakfaaGreatC13
import Derived.Test.YtgfdeiijblakfaaGreatC14
import Derived.Test.YtgfdeiijblakfaaGreatC15
import Derived.Test.YtgfdeiijblakfaaGreatC16
import Derived.Test.YtgfdeiijblakfaaGreatC17
import Derived.Test.YtgfdeiijblakfaaGreatC18
import Derived.Test.YtgfdeiijblakfaaGreatC19
import Derived.Test.YtgfdeiijblakfaaGreatC20
import Derived.Test.YtgfdeiijblakfaaGreatC21
import Derived.Test.YtgfdeiijblakfaaGreatC23
import Derived.Test.YtgfdeiijblakfaaGreatC25
import Derived.Test.YtgfdeiijblakfaaGreatC26
import Derived.Test.YtgfdeiijblakfaaGreatC27
import Derived.Test.YtgfdeiijblakfaaGreatC28
import Derived.Test.YtgfdeiijblakfaaGreatC30
import Derived.Test.YtgfdeiijblakfaaGreatC31
import Derived.Test.YtgfdeiijblakfaaGreatC32
import Derived.Test.YtgfdeiijblakfaaGreatC34
import Derived.Test.YtgfdeiijblakfaaGreatC35
import Derived.Test.YtgfdeiijblakfaaGreatC36
import Derived.Test.YtgfdeiijblakfaaGreatC38
import Derived.Test.YtgfdeiijblakfaaGreatC39
import Derived.Test.YtgfdeiijblakfaaGreatX0
import Derived.Test.YtgfdeiijblakfaaGreatCS
set_option maxHeartbeats 4000000
set_option maxRecDepth 20000
namespace Go.Proofs.YtgfdeiijblakfaaGreat
open Go Go.RowKit Go.Stg
theorem takes_all {ds:List Comp} {v:Value} {w w':World} {f:List Nat} (h:Scene f w ds w'):Takes (Comp.all ds) v w f (.returned v) w':=by
 obtain⟨f',h1,h2,h3⟩:=h.done;exact⟨f',rfl,h1,h2,h3⟩
abbrev callO (a:HA) (p:Int) (tv:Value) (ab n cap:Nat) (d:Int):Obj:=.cells #[.pointer (some ⟨a.hb,0,none⟩),.int .i64 p,tv,.slice (some ⟨ab,0,none⟩) n cap,.int .u64 d] 79 (0,0)
theorem ctag_one {w:World} {cb:Nat} {hv:Value} {p:Int} {tb ab n cap:Nat} {d:Int} {cs:Array Value} {T:TypeId} {xs:Nat→Int} (h:CallAt w cb hv p (.slice (some ⟨tb,0,none⟩) 1 1) ab n cap d cs T xs) (hn:0<n) (hx:xs 0=0) {t:Int} (ht:w.heap[tb]? =some (.cells #[.int .i64 t] 3 (0,0))):
  Calls Tryz.prog 45 #[.pointer (some ⟨cb,0,none⟩)] w fun e w'=>e=.returned (.int .i64 t)∧Mod [] w w':=by
 have hi:=cindex_ok h 0 hn;rw[show idxI (xs 0)=0 by rw[hx];rfl]at hi;have hi:=Lib.hid hi;have hb:=Lib.hid h.blk;have htH:=Lib.hid ht;clear h hn hx ht;go_enter Tryz.func45,Tryz.ntmps45;go_wp2_with fail;refine hi.out.mono ?_;rintro e w1 ⟨rfl,hm⟩;have hc:=cells_of (hm.at hb.out (by simp));have ht:=cells_of (hm.at htH.out (by simp));go_wp2_with fail;go_ret;exact⟨rfl,hm⟩
section
variable {F:List Nat} {W w:World} {cs:List Comp} {a:HA} {c:HC} {k:Nat} {s:HS}
theorem livedo_1 (hc:c.Ok) (hI:HInv c k s) (hk:k≤900) {p d t:Int} {cb ab tb:Nat} (d0:0≤d) (d1:d≤18446744073709551615) (hh:0≤allocH c s p t d∧allocH c s p t d≤18446744073709551615)
  (hS:Scene F W (hpA a c s::blockC cb (callO a p (.slice (some ⟨tb,0,none⟩) 1 1) ab 1 1 d)::blockC ab (.cells #[.int .u64 0] 22 (0,0))::blockC tb (.cells #[.int .i64 t] 3 (0,0))::cs) w):
  Calls Tryz.prog 25 #[.pointer (some ⟨cb,0,none⟩),.int .i64 1] w fun e w'=>e=.returned (.tuple #[.int .u64 (opAllocH c s p t d),.int .i64 (opAlloc c s p t d).1])∧
   Scene F W (hpA a c (opAlloc c s p t d).2::blockC cb (callO a p (.slice (some ⟨tb,0,none⟩) 1 1) ab 1 1 d)::blockC ab (.cells #[.int .u64 0] 22 (0,0))::blockC tb (.cells #[.int .i64 t] 3 (0,0))::cs) w':=by
 have hc0:CallAt w cb (.pointer (some ⟨a.hb,0,none⟩)) p (.slice (some ⟨tb,0,none⟩) 1 1) ab 1 1 d #[.int .u64 0] 22 (fun _=>0):=by
  refine⟨hS.block 1 rfl,hS.block 2 rfl,?_,?_⟩
  ·intro j hj;obtain rfl:j=0:=by omega
   rfl
  ·intro j hj;simp
 obtain⟨fa,hl,hput,hne⟩:=hS.takePart 0 rfl;have k1:=GW.cells (S:=fa) (hS.block 1 rfl) (hne 0 _ _ rfl);have hH:=Lib.hid fun w' (hm:Mod [] w w')=>hc0.mod hm
 have htb:=Lib.hid (hS.block 3 rfl);have hop:=Lib.hid fun w' (hm:Mod [] w w')=>alloc_op hc hI hk (p:=p) (tag:=t) (d:=d) d0 d1 hh (Scene.own1 (hl w' hm))
 have hputH:=Lib.hid hput;clear hc0 hl hput hne hS hh;go_enter Tryz.func25,Tryz.ntmps25;go_wp2_with fail;refine wp_region_part fa (by kernel_rfl) (by kernel_rfl) ?_;refine stage_quiet 9 (by kernel_rfl) ?_;simp only[List.take_succ_cons,List.take_zero,List.drop_succ_cons,List.drop_zero]
 repeat (go_big_quiet_step (fail))
 refine wpQuiet_nil ?_;refine stage_look 45 #[.pointer (some ⟨cb,0,none⟩)] (.int .i64 t) rfl Tryz.call45 rfl rfl (fun w' hm=>ctag_one (hH.out _ hm) (by omega) rfl (hm.at htb.out (by simp))) ?_;simp only[Act.put,List.setIfInBounds_toArray,List.set_cons_succ,List.set_cons_zero];refine stage_quiet 4 (by kernel_rfl) ?_;simp only[List.take_succ_cons,List.take_zero,List.drop_succ_cons,List.drop_zero]
 repeat (go_big_quiet_step (fail))
 refine wpQuiet_nil ?_;refine stage_takes 44 #[.pointer (some ⟨a.hb,0,none⟩),.int .i64 p,.int .i64 t,.int .u64 d] (.tuple #[.int .u64 (opAllocH c s p t d),.int .i64 (opAlloc c s p t d).1]) rfl Tryz.call44 rfl rfl (fun w' hm=>(hop.out w' hm).mono fun e w'' ⟨he,h⟩=>by subst he;exact Scene.takes1 h) ?_;simp only[Act.put,List.setIfInBounds_toArray,List.set_cons_succ,List.set_cons_zero];refine stage_quiet 5 (by kernel_rfl) ?_;simp only[List.take_succ_cons,List.take_zero,List.drop_succ_cons,List.drop_zero]
 repeat (go_big_quiet_step (fail))
 refine wpQuiet_nil ?_;refine stage_nil fun w2 hw2=> ?_
 have hS3:=Lib.hid (hputH.out w2 _ hw2);clear k1 hH htb hop hputH hw2;go_wp2_with fail;go_ret2;exact⟨rfl,hS3.out⟩
end
theorem bvals_step (v:Int) {k m:Nat} (hk:k<m):(bvals (leB v k++List.replicate (m-k) 0)).set k (.int .u8 (v/256^k%256))=bvals (leB v (k+1)++List.replicate (m-(k+1)) 0):=by
 rw[leB_snoc,show m-k=(m-(k+1))+1 by omega,List.replicate_succ];unfold bvals;rw[List.map_append,List.map_cons,List.set_append_right _ _ (by simp[leB_len])];simp[leB_len]
section
variable {F:List Nat} {W w:World} {cs:List Comp} {a:HA} {c:HC} {k:Nat} {s:HS}
theorem livec_store (hc:c.Ok) (hI:HInv c k s) (hk:k≤900) {p d x0 x1 v:Int} {tv:Value} {cb ab m:Nat} (hm8:m≤8) (r0:0≤x0∧x0≤18446744073709551615) (r1:0≤x1∧x1≤18446744073709551615) (rv:0≤v∧v≤18446744073709551615)
  (hS:Scene F W (hpA a c s::blockC cb (callO a p tv ab 4 4 d)::blockC ab (.cells #[.int .u64 x0,.int .u64 x1,.int .u64 m,.int .u64 v] 22 (0,0))::cs) w):
  Calls Tryz.prog 52 #[.pointer (some ⟨cb,0,none⟩)] w fun e w'=>e=.returned (.int .i64 (opStore c s p x0 (idxI x1) (leB v m)).1)∧
   Scene F W (hpA a c (opStore c s p x0 (idxI x1) (leB v m)).2::blockC cb (callO a p tv ab 4 4 d)::blockC ab (.cells #[.int .u64 x0,.int .u64 x1,.int .u64 m,.int .u64 v] 22 (0,0))::cs) w':=by
 have hc0:CallAt w cb (.pointer (some ⟨a.hb,0,none⟩)) p tv ab 4 4 d #[.int .u64 x0,.int .u64 x1,.int .u64 m,.int .u64 v] 22 (fun j=>[x0,x1,(m:Int),v].getD j 0):=by
  refine⟨hS.block 1 rfl,hS.block 2 rfl,?_,?_⟩
  ·intro j hj;have:j=0∨j=1∨j=2∨j=3:=by omega
   rcases this with rfl|rfl|rfl|rfl<;>rfl
  ·intro j hj;have:j=0∨j=1∨j=2∨j=3:=by omega
   rcases this with rfl|rfl|rfl|rfl
   ·exact r0
   ·exact r1
   ·show 0≤(m:Int)∧(m:Int)≤_;omega
   ·exact rv
 have hH:=Lib.hid fun w' (hm:Mod [] w w')=>hc0.mod hm
 have hi:Calls Tryz.prog 49 #[.pointer (some ⟨cb,0,none⟩),.int .i64 2] w fun e w'=>e=.returned (.int .i64 m)∧Mod [] w w':=by
  have:=cindex_ok hc0 2 (by omega)
  rwa [show idxI ((fun j=>[x0,x1,(m:Int),v].getD j 0) 2)=m by show idxI (m:Int)=m;unfold idxI;rw[if_neg (by omega)]]at this
 have hi:=Lib.hid hi;have hSH:=Lib.hid hS;have hrH0:=Lib.hid r0;clear hc0 hS r0 r1 rv;go_enter Tryz.func52,Tryz.ntmps52;go_wp2_with fail;refine hi.out.mono ?_;rintro e w1 ⟨rfl,hm1⟩;obtain⟨w2,h1,h2,h3⟩:=make_bytes m (by omega) w1;have h2H:=Lib.hid h2;have hm2:=Lib.hid (hm1.nil_then h3);have hBg:=Lib.hid hm1.size;clear h2 h3 hi hm1;go_wp2_with fail;clear h1;generalize w1.heap.size=B at*;go_loopw [10] (fun i wr=>∃k:Nat,k≤m∧i=.int .i64 k∧Mod [] w wr∧wr.ownsRow B 5 1 (.slice (some ⟨B,0,none⟩) m m) m (bvals (leB v k++List.replicate (m-k) 0))) (fun i _=>m-(intOf i).toNat)
 case atStart=>exact⟨0,by omega,rfl,hm2.out,h2H.out⟩
 case round=>
  obtain⟨k,hkm,rfl,hm,hr⟩:=hrel;have hmH:=Lib.hid hm;have hrH:=Lib.hid hr;clear hm hr;by_cases hlt:k<m
  ·have hcase:k=0∨k=1∨k=2∨k=3∨k=4∨k=5∨k=6∨k=7:=by omega
   rcases hcase with rfl|rfl|rfl|rfl|rfl|rfl|rfl|rfl
   ·have hx:=hH.out _ hmH.out;have hcb:=cells_of hx.blk;have hx3:wr.cell? ⟨ab,3,none⟩=some (.int .u64 v):=by rw[cells_of hx.arr 3];rfl
    have hck:=(hrH.out.cellAt 0 (by omega)).trans (List.getElem?_eq_getElem (by rw[bvals_len,List.length_append,leB_len,List.length_replicate];omega));have hfr:=hrH.out.frozenAt;have hdk:decide ((((0:Nat):Int))<(m:Int))=true:=by simp;omega
    have hst:=Lib.hid (bvals_step v (k:=0) (m:=m) hlt);clear hx;simp only[show((0:Nat):Int)=0 from rfl]at hdk;simp only[show((0:Nat):Int)=0 from rfl];go_wp2_with fail;go_roundw
    case rel=>
     have h1:=(hrH.out.stored 0 (.int .u8 (v/256^0%256))).1;rw[hst.out]at h1;simp only[Int.reducePow,Nat.reduceAdd]at h1;refine⟨1,by omega,by go_num,hmH.out.setCell (.inr hBg.out) _,?_⟩
     first
     |exact h1
     |(rw[Int.ediv_one]at h1;exact h1)
    case measure=>simp[intOf];omega
   ·have hx:=hH.out _ hmH.out;have hcb:=cells_of hx.blk;have hx3:wr.cell? ⟨ab,3,none⟩=some (.int .u64 v):=by rw[cells_of hx.arr 3];rfl
    have hck:=(hrH.out.cellAt 1 (by omega)).trans (List.getElem?_eq_getElem (by rw[bvals_len,List.length_append,leB_len,List.length_replicate];omega));have hfr:=hrH.out.frozenAt;have hdk:decide ((((1:Nat):Int))<(m:Int))=true:=by simp;omega
    have hst:=Lib.hid (bvals_step v (k:=1) (m:=m) hlt);clear hx;simp only[show((1:Nat):Int)=1 from rfl]at hdk;simp only[show((1:Nat):Int)=1 from rfl];go_wp2_with fail;go_roundw
    case rel=>
     have h1:=(hrH.out.stored 1 (.int .u8 (v/256^1%256))).1;rw[hst.out]at h1;simp only[Int.reducePow,Nat.reduceAdd]at h1;refine⟨2,by omega,by go_num,hmH.out.setCell (.inr hBg.out) _,?_⟩
     first
     |exact h1
     |(rw[Int.ediv_one]at h1;exact h1)
    case measure=>simp[intOf];omega
   ·have hx:=hH.out _ hmH.out;have hcb:=cells_of hx.blk;have hx3:wr.cell? ⟨ab,3,none⟩=some (.int .u64 v):=by rw[cells_of hx.arr 3];rfl
    have hck:=(hrH.out.cellAt 2 (by omega)).trans (List.getElem?_eq_getElem (by rw[bvals_len,List.length_append,leB_len,List.length_replicate];omega));have hfr:=hrH.out.frozenAt;have hdk:decide ((((2:Nat):Int))<(m:Int))=true:=by simp;omega
    have hst:=Lib.hid (bvals_step v (k:=2) (m:=m) hlt);clear hx;simp only[show((2:Nat):Int)=2 from rfl]at hdk;simp only[show((2:Nat):Int)=2 from rfl];go_wp2_with fail;go_roundw
    case rel=>
     have h1:=(hrH.out.stored 2 (.int .u8 (v/256^2%256))).1;rw[hst.out]at h1;simp only[Int.reducePow,Nat.reduceAdd]at h1;refine⟨3,by omega,by go_num,hmH.out.setCell (.inr hBg.out) _,?_⟩
     first
     |exact h1
     |(rw[Int.ediv_one]at h1;exact h1)
    case measure=>simp[intOf];omega
   ·have hx:=hH.out _ hmH.out;have hcb:=cells_of hx.blk;have hx3:wr.cell? ⟨ab,3,none⟩=some (.int .u64 v):=by rw[cells_of hx.arr 3];rfl
    have hck:=(hrH.out.cellAt 3 (by omega)).trans (List.getElem?_eq_getElem (by rw[bvals_len,List.length_append,leB_len,List.length_replicate];omega));have hfr:=hrH.out.frozenAt;have hdk:decide ((((3:Nat):Int))<(m:Int))=true:=by simp;omega
    have hst:=Lib.hid (bvals_step v (k:=3) (m:=m) hlt);clear hx;simp only[show((3:Nat):Int)=3 from rfl]at hdk;simp only[show((3:Nat):Int)=3 from rfl];go_wp2_with fail;go_roundw
    case rel=>
     have h1:=(hrH.out.stored 3 (.int .u8 (v/256^3%256))).1;rw[hst.out]at h1;simp only[Int.reducePow,Nat.reduceAdd]at h1;refine⟨4,by omega,by go_num,hmH.out.setCell (.inr hBg.out) _,?_⟩
     first
     |exact h1
     |(rw[Int.ediv_one]at h1;exact h1)
    case measure=>simp[intOf];omega
   ·have hx:=hH.out _ hmH.out;have hcb:=cells_of hx.blk;have hx3:wr.cell? ⟨ab,3,none⟩=some (.int .u64 v):=by rw[cells_of hx.arr 3];rfl
    have hck:=(hrH.out.cellAt 4 (by omega)).trans (List.getElem?_eq_getElem (by rw[bvals_len,List.length_append,leB_len,List.length_replicate];omega));have hfr:=hrH.out.frozenAt;have hdk:decide ((((4:Nat):Int))<(m:Int))=true:=by simp;omega
    have hst:=Lib.hid (bvals_step v (k:=4) (m:=m) hlt);clear hx;simp only[show((4:Nat):Int)=4 from rfl]at hdk;simp only[show((4:Nat):Int)=4 from rfl];go_wp2_with fail;go_roundw
    case rel=>
     have h1:=(hrH.out.stored 4 (.int .u8 (v/256^4%256))).1;rw[hst.out]at h1;simp only[Int.reducePow,Nat.reduceAdd]at h1;refine⟨5,by omega,by go_num,hmH.out.setCell (.inr hBg.out) _,?_⟩
     first
     |exact h1
     |(rw[Int.ediv_one]at h1;exact h1)
    case measure=>simp[intOf];omega
   ·have hx:=hH.out _ hmH.out;have hcb:=cells_of hx.blk;have hx3:wr.cell? ⟨ab,3,none⟩=some (.int .u64 v):=by rw[cells_of hx.arr 3];rfl
    have hck:=(hrH.out.cellAt 5 (by omega)).trans (List.getElem?_eq_getElem (by rw[bvals_len,List.length_append,leB_len,List.length_replicate];omega));have hfr:=hrH.out.frozenAt;have hdk:decide ((((5:Nat):Int))<(m:Int))=true:=by simp;omega
    have hst:=Lib.hid (bvals_step v (k:=5) (m:=m) hlt);clear hx;simp only[show((5:Nat):Int)=5 from rfl]at hdk;simp only[show((5:Nat):Int)=5 from rfl];go_wp2_with fail;go_roundw
    case rel=>
     have h1:=(hrH.out.stored 5 (.int .u8 (v/256^5%256))).1;rw[hst.out]at h1;simp only[Int.reducePow,Nat.reduceAdd]at h1;refine⟨6,by omega,by go_num,hmH.out.setCell (.inr hBg.out) _,?_⟩
     first
     |exact h1
     |(rw[Int.ediv_one]at h1;exact h1)
    case measure=>simp[intOf];omega
   ·have hx:=hH.out _ hmH.out;have hcb:=cells_of hx.blk;have hx3:wr.cell? ⟨ab,3,none⟩=some (.int .u64 v):=by rw[cells_of hx.arr 3];rfl
    have hck:=(hrH.out.cellAt 6 (by omega)).trans (List.getElem?_eq_getElem (by rw[bvals_len,List.length_append,leB_len,List.length_replicate];omega));have hfr:=hrH.out.frozenAt;have hdk:decide ((((6:Nat):Int))<(m:Int))=true:=by simp;omega
    have hst:=Lib.hid (bvals_step v (k:=6) (m:=m) hlt);clear hx;simp only[show((6:Nat):Int)=6 from rfl]at hdk;simp only[show((6:Nat):Int)=6 from rfl];go_wp2_with fail;go_roundw
    case rel=>
     have h1:=(hrH.out.stored 6 (.int .u8 (v/256^6%256))).1;rw[hst.out]at h1;simp only[Int.reducePow,Nat.reduceAdd]at h1;refine⟨7,by omega,by go_num,hmH.out.setCell (.inr hBg.out) _,?_⟩
     first
     |exact h1
     |(rw[Int.ediv_one]at h1;exact h1)
    case measure=>simp[intOf];omega
   ·have hx:=hH.out _ hmH.out;have hcb:=cells_of hx.blk;have hx3:wr.cell? ⟨ab,3,none⟩=some (.int .u64 v):=by rw[cells_of hx.arr 3];rfl
    have hck:=(hrH.out.cellAt 7 (by omega)).trans (List.getElem?_eq_getElem (by rw[bvals_len,List.length_append,leB_len,List.length_replicate];omega));have hfr:=hrH.out.frozenAt;have hdk:decide ((((7:Nat):Int))<(m:Int))=true:=by simp;omega
    have hst:=Lib.hid (bvals_step v (k:=7) (m:=m) hlt);clear hx;simp only[show((7:Nat):Int)=7 from rfl]at hdk;simp only[show((7:Nat):Int)=7 from rfl];go_wp2_with fail;go_roundw
    case rel=>
     have h1:=(hrH.out.stored 7 (.int .u8 (v/256^7%256))).1;rw[hst.out]at h1;simp only[Int.reducePow,Nat.reduceAdd]at h1;refine⟨8,by omega,by go_num,hmH.out.setCell (.inr hBg.out) _,?_⟩
     first
     |exact h1
     |(rw[Int.ediv_one]at h1;exact h1)
    case measure=>simp[intOf];omega
  ·obtain rfl:k=m:=by omega
   have hrow:=hrH.out;rw[Nat.sub_self,List.replicate_zero,List.append_nil]at hrow;have hby:=row_bytes hrow (leB_len v k).symm (leB_bytes v k) (by rw[leB_len];omega);have hS4:=((hSH.out.add (c:=bytesC (.slice (some ⟨B,0,none⟩) k k) (leB v k)) hmH.out ⟨hby,rfl⟩ (fun x hx=>by simp[Value.ownBlock]at hx;subst hx;exact hBg.out)).swap).join [hpA a c s,bytesC (.slice (some ⟨B,0,none⟩) k k) (leB v k)];obtain⟨fa,hl,hput,hne⟩:=hS4.takePart 0 rfl;have k1:=GW.cells (S:=fa) (hS4.block 1 rfl) (hne 0 _ _ rfl);have hH3:=Lib.hid fun w' (hm:Mod [] wr w')=>hH.out _ (hmH.out.nil_then hm)
   have hop:=Lib.hid fun w' (hm:Mod [] wr w')=>store_op hc hI hk (p:=p) (off:=idxI x1) hrH0.out.1 hrH0.out.2 (Scene.start (hl w' hm))
   have hputH:=Lib.hid hput;clear hl hput hne hS4 hby hrow hrH hmH hH hSH h2H hm2;go_wp2_with fail;refine wp_region_part fa (by kernel_rfl) (by kernel_rfl) ?_;refine stage_quiet 9 (by kernel_rfl) ?_;simp only[List.take_succ_cons,List.take_zero,List.drop_succ_cons,List.drop_zero]
   repeat (go_big_quiet_step (fail))
   refine wpQuiet_nil ?_;refine stage_look 47 #[.pointer (some ⟨cb,0,none⟩),.int .i64 0] (.int .u64 x0) rfl Tryz.call47 rfl rfl (fun w' hm=>chandle_ok (hH3.out _ hm) 0 (by omega)) ?_;simp only[Act.put,List.setIfInBounds_toArray,List.set_cons_succ,List.set_cons_zero];refine stage_quiet 1 (by kernel_rfl) ?_;simp only[List.take_succ_cons,List.take_zero,List.drop_succ_cons,List.drop_zero]
   repeat (go_big_quiet_step (fail))
   refine wpQuiet_nil ?_;refine stage_look 49 #[.pointer (some ⟨cb,0,none⟩),.int .i64 1] (.int .i64 (idxI x1)) rfl Tryz.call49 rfl rfl (fun w' hm=>cindex_ok (hH3.out _ hm) 1 (by omega)) ?_;simp only[Act.put,List.setIfInBounds_toArray,List.set_cons_succ,List.set_cons_zero];refine stage_quiet 1 (by kernel_rfl) ?_;simp only[List.take_succ_cons,List.take_zero,List.drop_succ_cons,List.drop_zero]
   repeat (go_big_quiet_step (fail))
   refine wpQuiet_nil ?_;refine stage_takes 94 #[.pointer (some ⟨a.hb,0,none⟩),.int .i64 p,.int .u64 x0,.int .i64 (idxI x1),.slice (some ⟨B,0,none⟩) k k] (.int .i64 (opStore c s p x0 (idxI x1) (leB v k)).1) rfl Tryz.call94 rfl rfl (fun w' hm=>(hop.out w' hm).mono fun e w'' ⟨he,h⟩=>by subst he;exact takes_all h) ?_;simp only[Act.put,List.setIfInBounds_toArray,List.set_cons_succ,List.set_cons_zero];refine stage_quiet 1 (by kernel_rfl) ?_;simp only[List.take_succ_cons,List.take_zero,List.drop_succ_cons,List.drop_zero]
   repeat (go_big_quiet_step (fail))
   refine wpQuiet_nil ?_;refine stage_nil fun w5 hw5=> ?_
   have hS5:=Lib.hid ((hputH.out w5 _ hw5).split.erase 1);clear k1 hH3 hop hputH hw5;go_wp2_with fail;go_ret;exact⟨rfl,hS5.out⟩
theorem livedo_6 (hc:c.Ok) (hI:HInv c k s) (hk:k≤900) {p d x0 x1 v:Int} {tv:Value} {cb ab m:Nat} (hm8:m≤8) (r0:0≤x0∧x0≤18446744073709551615) (r1:0≤x1∧x1≤18446744073709551615) (rv:0≤v∧v≤18446744073709551615)
  (hS:Scene F W (hpA a c s::blockC cb (callO a p tv ab 4 4 d)::blockC ab (.cells #[.int .u64 x0,.int .u64 x1,.int .u64 m,.int .u64 v] 22 (0,0))::cs) w):
  Calls Tryz.prog 25 #[.pointer (some ⟨cb,0,none⟩),.int .i64 6] w fun e w'=>e=.returned (.tuple #[.int .u64 0,.int .i64 (opStore c s p x0 (idxI x1) (leB v m)).1])∧
   Scene F W (hpA a c (opStore c s p x0 (idxI x1) (leB v m)).2::blockC cb (callO a p tv ab 4 4 d)::blockC ab (.cells #[.int .u64 x0,.int .u64 x1,.int .u64 m,.int .u64 v] 22 (0,0))::cs) w':=by
 have hl:=Lib.hid (livec_store hc hI hk (p:=p) (d:=d) hm8 r0 r1 rv hS);clear hS hc hI hk r0 r1 rv hm8;go_enter Tryz.func25,Tryz.ntmps25;go_wp2_with fail;refine hl.out.mono ?_;rintro e w1 ⟨rfl,hS1⟩;have hS1:=Lib.hid hS1;go_wp2_with fail;go_ret2;exact⟨rfl,hS1.out⟩
theorem loadB_props (hI:HInv c k s) (p o off:Int) {m:Nat} (hm:m≤8):(opLoadB c s p o off m).length≤8∧∀x∈opLoadB c s p o off m,0≤x∧x≤255:=by
 unfold opLoadB cutB;split
 ·refine⟨by rw[List.length_take,Int.toNat_natCast];omega,fun x hx=> ?_⟩;exact hI.memB _ x (List.mem_of_mem_drop (List.mem_of_mem_take hx))
 ·exact⟨by simp,by simp⟩
theorem livec_load (hc:c.Ok) (hI:HInv c k s) (hk:k≤900) {p d x0 x1:Int} {tv:Value} {cb ab m:Nat} (hm8:m≤8) (r0:0≤x0∧x0≤18446744073709551615) (r1:0≤x1∧x1≤18446744073709551615)
  (hS:Scene F W (hpA a c s::blockC cb (callO a p tv ab 3 3 d)::blockC ab (.cells #[.int .u64 x0,.int .u64 x1,.int .u64 m] 22 (0,0))::cs) w):
  Calls Tryz.prog 51 #[.pointer (some ⟨cb,0,none⟩)] w fun e w'=>e=.returned (.tuple #[.int .u64 (little (opLoadB c s p x0 (idxI x1) m)),.int .i64 (opLoad c s p x0 (idxI x1) m).1])∧
   Scene F W (hpA a c (opLoad c s p x0 (idxI x1) m).2::blockC cb (callO a p tv ab 3 3 d)::blockC ab (.cells #[.int .u64 x0,.int .u64 x1,.int .u64 m] 22 (0,0))::cs) w':=by
 have hc0:CallAt w cb (.pointer (some ⟨a.hb,0,none⟩)) p tv ab 3 3 d #[.int .u64 x0,.int .u64 x1,.int .u64 m] 22 (fun j=>[x0,x1,(m:Int)].getD j 0):=by
  refine⟨hS.block 1 rfl,hS.block 2 rfl,?_,?_⟩
  ·intro j hj;have:j=0∨j=1∨j=2:=by omega
   rcases this with rfl|rfl|rfl<;>rfl
  ·intro j hj;have:j=0∨j=1∨j=2:=by omega
   rcases this with rfl|rfl|rfl
   ·exact r0
   ·exact r1
   ·show 0≤(m:Int)∧(m:Int)≤_;omega
 obtain⟨hbl,hby⟩:=loadB_props hI p x0 (idxI x1) hm8;have em:idxI (m:Int)=m:=by unfold idxI;rw[if_neg (by omega)]
 obtain⟨fa,hl,hput,hne⟩:=hS.takePart 0 rfl;have k1:=GW.cells (S:=fa) (hS.block 1 rfl) (hne 0 _ _ rfl);have hH:=Lib.hid fun w' (hm:Mod [] w w')=>hc0.mod hm
 have h2:=Lib.hid fun w' (hm:Mod [] w w')=>(em▸cindex_ok (hc0.mod hm) 2 (by omega):Calls Tryz.prog 49 #[.pointer (some ⟨cb,0,none⟩),.int .i64 2] w' fun e w''=>e=.returned (.int .i64 m)∧Mod [] w' w'')
 have hop:=Lib.hid fun w' (hm:Mod [] w w')=>load_op hc hI hk (p:=p) (off:=idxI x1) (n:=m) r0.1 r0.2 (Scene.own1 (hl w' hm))
 have hputH:=Lib.hid hput;have hbyH:=Lib.hid hby;clear hc0 hl hput hne hS r0 r1 hby em hc hI;generalize hbs:opLoadB c s p x0 (idxI x1) m=bs at*;generalize opLoad c s p x0 (idxI x1) m=lo at*;clear hbs;go_enter Tryz.func51,Tryz.ntmps51;go_wp2_with fail;refine wp_region_part fa (by kernel_rfl) (by kernel_rfl) ?_;refine stage_quiet 9 (by kernel_rfl) ?_;simp only[List.take_succ_cons,List.take_zero,List.drop_succ_cons,List.drop_zero]
 repeat (go_big_quiet_step (fail))
 refine wpQuiet_nil ?_;refine stage_look 47 #[.pointer (some ⟨cb,0,none⟩),.int .i64 0] (.int .u64 x0) rfl Tryz.call47 rfl rfl (fun w' hm=>chandle_ok (hH.out _ hm) 0 (by omega)) ?_;simp only[Act.put,List.setIfInBounds_toArray,List.set_cons_succ,List.set_cons_zero];refine stage_quiet 1 (by kernel_rfl) ?_;simp only[List.take_succ_cons,List.take_zero,List.drop_succ_cons,List.drop_zero]
 repeat (go_big_quiet_step (fail))
 refine wpQuiet_nil ?_;refine stage_look 49 #[.pointer (some ⟨cb,0,none⟩),.int .i64 1] (.int .i64 (idxI x1)) rfl Tryz.call49 rfl rfl (fun w' hm=>cindex_ok (hH.out _ hm) 1 (by omega)) ?_;simp only[Act.put,List.setIfInBounds_toArray,List.set_cons_succ,List.set_cons_zero];refine stage_quiet 1 (by kernel_rfl) ?_;simp only[List.take_succ_cons,List.take_zero,List.drop_succ_cons,List.drop_zero]
 repeat (go_big_quiet_step (fail))
 refine wpQuiet_nil ?_;refine stage_look 49 #[.pointer (some ⟨cb,0,none⟩),.int .i64 2] (.int .i64 m) rfl Tryz.call49 rfl rfl (fun w' hm=>h2.out _ hm) ?_;simp only[Act.put,List.setIfInBounds_toArray,List.set_cons_succ,List.set_cons_zero];refine stage_quiet 0 (by kernel_rfl) ?_;simp only[List.take_zero,List.drop_zero]
 repeat (go_big_quiet_step (fail))
 refine wpQuiet_nil ?_;refine stage_call_any 26 #[.pointer (some ⟨a.hb,0,none⟩),.int .i64 p,.int .u64 x0,.int .i64 (idxI x1),.int .i64 m] (fun v=>∃x y z,v=.tuple #[.slice x y z,.int .i64 lo.1]) (fun v w'=>∃u,v=.tuple #[u,.int .i64 lo.1]∧Took (Comp.all [rowC u bs.length 5 1 (bvals bs),hpA a c lo.2]) fa w w') rfl Tryz.call26 rfl rfl ⟨_,none,0,0,rfl⟩ (fun w' hm=>(hop.out w' hm).mono fun e w'' ⟨u,he,h⟩=>by
  obtain⟨x,y,z,rfl⟩:=row_form (h.row 0 rfl);obtain⟨f',g1,g2,g3⟩:=h.done;exact⟨_,he,⟨x,y,z,rfl⟩,_,rfl,(hm.mono (by simp)).trans g2,f',g1,fun x hx=>(g3 x hx).imp id fun h=>Nat.le_trans hm.size h⟩) (fun v w' ⟨_,_,h⟩=>InGW.of h.1) (fun v hv=> ?_)
 obtain⟨ua,ul,uc,rfl⟩:=hv;simp only[Act.put,List.setIfInBounds_toArray,List.set_cons_succ,List.set_cons_zero];refine stage_quiet 5 (by kernel_rfl) ?_;simp only[List.take_succ_cons,List.take_zero,List.drop_succ_cons,List.drop_zero]
 repeat (go_big_quiet_step (fail))
 refine wpQuiet_nil ?_;refine stage_nil fun w2 hw2=> ?_
 obtain⟨u,hu,hw2⟩:=hw2;cases hu;have hS2:=(hputH.out w2 _ hw2).split;have hrow:=hS2.row 0 rfl;have hS3:=Lib.hid (hS2.erase 0);clear k1 hH h2 hop hputH hw2 hS2;rcases hrow.2 with⟨hn,h0⟩|⟨g,cap,cur,hsl,q2,q3,q4,q5,q6,q7⟩
 ·cases hn;have hb0:bs=[]:=List.eq_nil_of_length_eq_zero h0;subst hb0;clear hrow h0 hbl hbyH;go_wp2_with fail;go_loopw [29,6] (fun i v wr=>(i=.int .i64 0∧v=.int .u64 0)∧wr=w2) (fun _ _ _=>0)
  case atStart=>exact⟨⟨rfl,rfl⟩,rfl⟩
  case round=>
   obtain⟨⟨rfl,rfl⟩,rfl⟩:=hrel;go_wp2_with fail;go_ret2;exact⟨rfl,hS3.out⟩
 ·cases hsl;have hget:=Lib.hid fun(i:Nat) (b:Int) (hb:bs[i]? =some b)=>(show(0≤b∧b≤255)∧w2.cell? ⟨g,i,none⟩=some (.int .u8 b)from
   ⟨hbyH.out b (List.mem_of_getElem? hb),by
    have hlt:i<bs.length:=(List.getElem?_eq_some_iff.1 hb).1;rw[hrow.cellAt i (by omega)];simp[bvals,hb]⟩)
  clear hrow q2 q3 q4 q5 q6 q7;go_wp2_with fail;go_loopw [29,6] (fun i v wr=>∃k:Nat,k≤bs.length∧i=.int .i64 k∧v=.int .u64 (little (bs.take k))∧wr=w2) (fun i _ _=>bs.length-(intOf i).toNat)
  case atStart=>exact⟨0,by omega,rfl,by simp[little],rfl⟩
  case round=>
   obtain⟨k,hk,rfl,rfl,rfl⟩:=hrel;by_cases hlt:k<bs.length
   ·have hcase:k=0∨k=1∨k=2∨k=3∨k=4∨k=5∨k=6∨k=7:=by omega
    rcases hcase with rfl|rfl|rfl|rfl|rfl|rfl|rfl|rfl
    ·obtain⟨b,hb,ht⟩:∃b,bs[0]? =some b∧bs.take 1=bs.take 0++[b]:=⟨bs[0]'(by omega),by simp,by rw[List.take_add_one,List.getElem?_eq_getElem (by omega)];rfl⟩;have hcb:=(hget.out 0 b hb);obtain⟨⟨c0,c1⟩,hcell⟩:=hcb
     try simp only[Nat.add_zero]at hcell
     have hr:=little_range (bs.take 0) fun b hb=>hbyH.out b (List.mem_of_mem_take hb)
     rw[List.length_take,Nat.min_eq_left (by omega)]at hr;have hlt2:=little_snoc b (bs.take 0);rw[←ht,List.length_take,Nat.min_eq_left (by omega)]at hlt2;have hltH:=Lib.hid hlt2;clear ht hlt2 hb;obtain⟨vk,hvk⟩:∃vk,little (bs.take 0)=vk:=⟨_,rfl⟩;rw[hvk]at hltH hr;simp only[hvk];simp only[Int.reducePow]at hr hltH;have hor:=Tb.or_low (8*0) (b*1) vk (by omega) (by simp only[Nat.reduceMul,Int.reducePow];omega) (by omega) hr.1 (by simp only[Nat.reduceMul,Int.reducePow];omega) (by omega);clear hvk
     try simp only[Int.mul_one]at hor
     go_wp2_with fail;go_roundw
     case rel=>exact⟨1,by omega,by go_num,by first|(rw[hltH.out]<;>simp only[Int.mul_one];done)|(rw[hltH.out]<;>simp only[Int.mul_one,hor]),trivial⟩
     case measure=>simp[intOf];omega
    ·obtain⟨b,hb,ht⟩:∃b,bs[1]? =some b∧bs.take 2=bs.take 1++[b]:=⟨bs[1]'(by omega),by simp,by rw[List.take_add_one,List.getElem?_eq_getElem (by omega)];rfl⟩;have hcb:=(hget.out 1 b hb);obtain⟨⟨c0,c1⟩,hcell⟩:=hcb
     try simp only[Nat.add_zero]at hcell
     have hr:=little_range (bs.take 1) fun b hb=>hbyH.out b (List.mem_of_mem_take hb)
     rw[List.length_take,Nat.min_eq_left (by omega)]at hr;have hlt2:=little_snoc b (bs.take 1);rw[←ht,List.length_take,Nat.min_eq_left (by omega)]at hlt2;have hltH:=Lib.hid hlt2;clear ht hlt2 hb;obtain⟨vk,hvk⟩:∃vk,little (bs.take 1)=vk:=⟨_,rfl⟩;rw[hvk]at hltH hr;simp only[hvk];simp only[Int.reducePow]at hr hltH;have hor:=Tb.or_low (8*1) (b*256) vk (by omega) (by simp only[Nat.reduceMul,Int.reducePow];omega) (by omega) hr.1 (by simp only[Nat.reduceMul,Int.reducePow];omega) (by omega);clear hvk
     try simp only[Int.mul_one]at hor
     go_wp2_with fail;go_roundw
     case rel=>exact⟨2,by omega,by go_num,by first|(rw[hltH.out]<;>simp only[Int.mul_one];done)|(rw[hltH.out]<;>simp only[Int.mul_one,hor]),trivial⟩
     case measure=>simp[intOf];omega
    ·obtain⟨b,hb,ht⟩:∃b,bs[2]? =some b∧bs.take 3=bs.take 2++[b]:=⟨bs[2]'(by omega),by simp,by rw[List.take_add_one,List.getElem?_eq_getElem (by omega)];rfl⟩;have hcb:=(hget.out 2 b hb);obtain⟨⟨c0,c1⟩,hcell⟩:=hcb
     try simp only[Nat.add_zero]at hcell
     have hr:=little_range (bs.take 2) fun b hb=>hbyH.out b (List.mem_of_mem_take hb)
     rw[List.length_take,Nat.min_eq_left (by omega)]at hr;have hlt2:=little_snoc b (bs.take 2);rw[←ht,List.length_take,Nat.min_eq_left (by omega)]at hlt2;have hltH:=Lib.hid hlt2;clear ht hlt2 hb;obtain⟨vk,hvk⟩:∃vk,little (bs.take 2)=vk:=⟨_,rfl⟩;rw[hvk]at hltH hr;simp only[hvk];simp only[Int.reducePow]at hr hltH;have hor:=Tb.or_low (8*2) (b*65536) vk (by omega) (by simp only[Nat.reduceMul,Int.reducePow];omega) (by omega) hr.1 (by simp only[Nat.reduceMul,Int.reducePow];omega) (by omega);clear hvk
     try simp only[Int.mul_one]at hor
     go_wp2_with fail;go_roundw
     case rel=>exact⟨3,by omega,by go_num,by first|(rw[hltH.out]<;>simp only[Int.mul_one];done)|(rw[hltH.out]<;>simp only[Int.mul_one,hor]),trivial⟩
     case measure=>simp[intOf];omega
    ·obtain⟨b,hb,ht⟩:∃b,bs[3]? =some b∧bs.take 4=bs.take 3++[b]:=⟨bs[3]'(by omega),by simp,by rw[List.take_add_one,List.getElem?_eq_getElem (by omega)];rfl⟩;have hcb:=(hget.out 3 b hb);obtain⟨⟨c0,c1⟩,hcell⟩:=hcb
     try simp only[Nat.add_zero]at hcell
     have hr:=little_range (bs.take 3) fun b hb=>hbyH.out b (List.mem_of_mem_take hb)
     rw[List.length_take,Nat.min_eq_left (by omega)]at hr;have hlt2:=little_snoc b (bs.take 3);rw[←ht,List.length_take,Nat.min_eq_left (by omega)]at hlt2;have hltH:=Lib.hid hlt2;clear ht hlt2 hb;obtain⟨vk,hvk⟩:∃vk,little (bs.take 3)=vk:=⟨_,rfl⟩;rw[hvk]at hltH hr;simp only[hvk];simp only[Int.reducePow]at hr hltH;have hor:=Tb.or_low (8*3) (b*16777216) vk (by omega) (by simp only[Nat.reduceMul,Int.reducePow];omega) (by omega) hr.1 (by simp only[Nat.reduceMul,Int.reducePow];omega) (by omega);clear hvk
     try simp only[Int.mul_one]at hor
     go_wp2_with fail;go_roundw
     case rel=>exact⟨4,by omega,by go_num,by first|(rw[hltH.out]<;>simp only[Int.mul_one];done)|(rw[hltH.out]<;>simp only[Int.mul_one,hor]),trivial⟩
     case measure=>simp[intOf];omega
    ·obtain⟨b,hb,ht⟩:∃b,bs[4]? =some b∧bs.take 5=bs.take 4++[b]:=⟨bs[4]'(by omega),by simp,by rw[List.take_add_one,List.getElem?_eq_getElem (by omega)];rfl⟩;have hcb:=(hget.out 4 b hb);obtain⟨⟨c0,c1⟩,hcell⟩:=hcb
     try simp only[Nat.add_zero]at hcell
     have hr:=little_range (bs.take 4) fun b hb=>hbyH.out b (List.mem_of_mem_take hb)
     rw[List.length_take,Nat.min_eq_left (by omega)]at hr;have hlt2:=little_snoc b (bs.take 4);rw[←ht,List.length_take,Nat.min_eq_left (by omega)]at hlt2;have hltH:=Lib.hid hlt2;clear ht hlt2 hb;obtain⟨vk,hvk⟩:∃vk,little (bs.take 4)=vk:=⟨_,rfl⟩;rw[hvk]at hltH hr;simp only[hvk];simp only[Int.reducePow]at hr hltH;have hor:=Tb.or_low (8*4) (b*4294967296) vk (by omega) (by simp only[Nat.reduceMul,Int.reducePow];omega) (by omega) hr.1 (by simp only[Nat.reduceMul,Int.reducePow];omega) (by omega);clear hvk
     try simp only[Int.mul_one]at hor
     go_wp2_with fail;go_roundw
     case rel=>exact⟨5,by omega,by go_num,by first|(rw[hltH.out]<;>simp only[Int.mul_one];done)|(rw[hltH.out]<;>simp only[Int.mul_one,hor]),trivial⟩
     case measure=>simp[intOf];omega
    ·obtain⟨b,hb,ht⟩:∃b,bs[5]? =some b∧bs.take 6=bs.take 5++[b]:=⟨bs[5]'(by omega),by simp,by rw[List.take_add_one,List.getElem?_eq_getElem (by omega)];rfl⟩;have hcb:=(hget.out 5 b hb);obtain⟨⟨c0,c1⟩,hcell⟩:=hcb
     try simp only[Nat.add_zero]at hcell
     have hr:=little_range (bs.take 5) fun b hb=>hbyH.out b (List.mem_of_mem_take hb)
     rw[List.length_take,Nat.min_eq_left (by omega)]at hr;have hlt2:=little_snoc b (bs.take 5);rw[←ht,List.length_take,Nat.min_eq_left (by omega)]at hlt2;have hltH:=Lib.hid hlt2;clear ht hlt2 hb;obtain⟨vk,hvk⟩:∃vk,little (bs.take 5)=vk:=⟨_,rfl⟩;rw[hvk]at hltH hr;simp only[hvk];simp only[Int.reducePow]at hr hltH;have hor:=Tb.or_low (8*5) (b*1099511627776) vk (by omega) (by simp only[Nat.reduceMul,Int.reducePow];omega) (by omega) hr.1 (by simp only[Nat.reduceMul,Int.reducePow];omega) (by omega);clear hvk
     try simp only[Int.mul_one]at hor
     go_wp2_with fail;go_roundw
     case rel=>exact⟨6,by omega,by go_num,by first|(rw[hltH.out]<;>simp only[Int.mul_one];done)|(rw[hltH.out]<;>simp only[Int.mul_one,hor]),trivial⟩
     case measure=>simp[intOf];omega
    ·obtain⟨b,hb,ht⟩:∃b,bs[6]? =some b∧bs.take 7=bs.take 6++[b]:=⟨bs[6]'(by omega),by simp,by rw[List.take_add_one,List.getElem?_eq_getElem (by omega)];rfl⟩;have hcb:=(hget.out 6 b hb);obtain⟨⟨c0,c1⟩,hcell⟩:=hcb
     try simp only[Nat.add_zero]at hcell
     have hr:=little_range (bs.take 6) fun b hb=>hbyH.out b (List.mem_of_mem_take hb)
     rw[List.length_take,Nat.min_eq_left (by omega)]at hr;have hlt2:=little_snoc b (bs.take 6);rw[←ht,List.length_take,Nat.min_eq_left (by omega)]at hlt2;have hltH:=Lib.hid hlt2;clear ht hlt2 hb;obtain⟨vk,hvk⟩:∃vk,little (bs.take 6)=vk:=⟨_,rfl⟩;rw[hvk]at hltH hr;simp only[hvk];simp only[Int.reducePow]at hr hltH;have hor:=Tb.or_low (8*6) (b*281474976710656) vk (by omega) (by simp only[Nat.reduceMul,Int.reducePow];omega) (by omega) hr.1 (by simp only[Nat.reduceMul,Int.reducePow];omega) (by omega);clear hvk
     try simp only[Int.mul_one]at hor
     go_wp2_with fail;go_roundw
     case rel=>exact⟨7,by omega,by go_num,by first|(rw[hltH.out]<;>simp only[Int.mul_one];done)|(rw[hltH.out]<;>simp only[Int.mul_one,hor]),trivial⟩
     case measure=>simp[intOf];omega
    ·obtain⟨b,hb,ht⟩:∃b,bs[7]? =some b∧bs.take 8=bs.take 7++[b]:=⟨bs[7]'(by omega),by simp,by rw[List.take_add_one,List.getElem?_eq_getElem (by omega)];rfl⟩;have hcb:=(hget.out 7 b hb);obtain⟨⟨c0,c1⟩,hcell⟩:=hcb
     try simp only[Nat.add_zero]at hcell
     have hr:=little_range (bs.take 7) fun b hb=>hbyH.out b (List.mem_of_mem_take hb)
     rw[List.length_take,Nat.min_eq_left (by omega)]at hr;have hlt2:=little_snoc b (bs.take 7);rw[←ht,List.length_take,Nat.min_eq_left (by omega)]at hlt2;have hltH:=Lib.hid hlt2;clear ht hlt2 hb;obtain⟨vk,hvk⟩:∃vk,little (bs.take 7)=vk:=⟨_,rfl⟩;rw[hvk]at hltH hr;simp only[hvk];simp only[Int.reducePow]at hr hltH;have hor:=Tb.or_low (8*7) (b*72057594037927936) vk (by omega) (by simp only[Nat.reduceMul,Int.reducePow];omega) (by omega) hr.1 (by simp only[Nat.reduceMul,Int.reducePow];omega) (by omega);clear hvk
     try simp only[Int.mul_one]at hor
     go_wp2_with fail;go_roundw
     case rel=>exact⟨8,by omega,by go_num,by first|(rw[hltH.out]<;>simp only[Int.mul_one];done)|(rw[hltH.out]<;>simp only[Int.mul_one,hor]),trivial⟩
     case measure=>simp[intOf];omega
   ·obtain rfl:k=bs.length:=by omega
    rw[List.take_of_length_le (by omega)];go_wp2_with fail;go_ret2;exact⟨rfl,hS3.out⟩
theorem livedo_5 (hc:c.Ok) (hI:HInv c k s) (hk:k≤900) {p d x0 x1:Int} {tv:Value} {cb ab m:Nat} (hm8:m≤8) (r0:0≤x0∧x0≤18446744073709551615) (r1:0≤x1∧x1≤18446744073709551615)
  (hS:Scene F W (hpA a c s::blockC cb (callO a p tv ab 3 3 d)::blockC ab (.cells #[.int .u64 x0,.int .u64 x1,.int .u64 m] 22 (0,0))::cs) w):
  Calls Tryz.prog 25 #[.pointer (some ⟨cb,0,none⟩),.int .i64 5] w fun e w'=>e=.returned (.tuple #[.int .u64 (little (opLoadB c s p x0 (idxI x1) m)),.int .i64 (opLoad c s p x0 (idxI x1) m).1])∧
   Scene F W (hpA a c (opLoad c s p x0 (idxI x1) m).2::blockC cb (callO a p tv ab 3 3 d)::blockC ab (.cells #[.int .u64 x0,.int .u64 x1,.int .u64 m] 22 (0,0))::cs) w':=by
 have hl:=Lib.hid (livec_load hc hI hk (p:=p) (d:=d) hm8 r0 r1 hS);clear hS hc hI hk r0 r1 hm8;go_enter Tryz.func25,Tryz.ntmps25;go_wp2_with fail;refine hl.out.mono ?_;rintro e w1 ⟨rfl,hS1⟩;have hS1:=Lib.hid hS1;go_wp2_with fail;go_ret2;exact⟨rfl,hS1.out⟩
theorem arity_1 (w:World):Calls Tryz.prog 24 #[.int .i64 1] w fun e w'=>e=.returned (.tuple #[.int .i64 1,.bool true])∧Mod [] w w':=by
 go_enter Tryz.func24,Tryz.ntmps24;go_wp2_with fail;go_ret2;exact⟨rfl,Mod.refl _ _⟩
theorem arity_5 (w:World):Calls Tryz.prog 24 #[.int .i64 5] w fun e w'=>e=.returned (.tuple #[.int .i64 3,.bool true])∧Mod [] w w':=by
 go_enter Tryz.func24,Tryz.ntmps24;go_wp2_with fail;go_ret2;exact⟨rfl,Mod.refl _ _⟩
theorem arity_6 (w:World):Calls Tryz.prog 24 #[.int .i64 6] w fun e w'=>e=.returned (.tuple #[.int .i64 4,.bool true])∧Mod [] w w':=by
 go_enter Tryz.func24,Tryz.ntmps24;go_wp2_with fail;go_ret2;exact⟨rfl,Mod.refl _ _⟩
theorem live_alloc (hc:c.Ok) (hI:HInv c k s) (hk:k≤900) {p d t:Int} {ab tb:Nat} (d0:0≤d) (d1:d≤18446744073709551615) (hh:0≤allocH c s p t d∧allocH c s p t d≤18446744073709551615) (he:(opAlloc c s p t d).1=0)
  (hS:Scene F W (hpA a c s::blockC ab (.cells #[.int .u64 0] 22 (0,0))::blockC tb (.cells #[.int .i64 t] 3 (0,0))::cs) w):
  Calls Tryz.prog 8 #[.pointer (some ⟨a.hb,0,none⟩),.int .i64 p,.slice (some ⟨tb,0,none⟩) 1 1,.int .i64 1,.slice (some ⟨ab,0,none⟩) 1 1,.int .u64 d] w fun e w'=>e=.returned (.tuple #[.int .u64 (opAllocH c s p t d),.int .i64 0])∧
   Scene F W (hpA a c (opAlloc c s p t d).2::blockC ab (.cells #[.int .u64 0] 22 (0,0))::blockC tb (.cells #[.int .i64 t] 3 (0,0))::cs) w':=by
 have hSH:=Lib.hid hS;clear hS;go_enter Tryz.func8,Tryz.ntmps8;go_wp2_with fail;refine(arity_1 _).mono ?_;rintro e w1 ⟨rfl,hm1⟩;have hS1:=(hSH.out.then hm1).alloc (.cells #[.pointer (some ⟨a.hb,0,none⟩),.int .i64 p,.slice (some ⟨tb,0,none⟩) 1 1,.slice (some ⟨ab,0,none⟩) 1 1,.int .u64 d] 79);have hop:=livedo_1 hc hI hk d0 d1 hh hS1.swap;rw[he]at hop;have hop:=Lib.hid hop;clear hSH hS1 hm1 he hh;go_wp2_with fail;refine hop.out.mono ?_;rintro e w2 ⟨rfl,hS2⟩;have hS2:=Lib.hid (hS2.erase 1);clear hop;go_wp2_with fail;go_ret2;exact⟨rfl,hS2.out⟩
theorem live_store (hc:c.Ok) (hI:HInv c k s) (hk:k≤900) {p d x0 x1 v:Int} {ab m:Nat} (hm8:m≤8) (r0:0≤x0∧x0≤18446744073709551615) (r1:0≤x1∧x1≤18446744073709551615) (rv:0≤v∧v≤18446744073709551615)
  (hS:Scene F W (hpA a c s::blockC ab (.cells #[.int .u64 x0,.int .u64 x1,.int .u64 m,.int .u64 v] 22 (0,0))::cs) w):
  Calls Tryz.prog 8 #[.pointer (some ⟨a.hb,0,none⟩),.int .i64 p,.slice none 0 0,.int .i64 6,.slice (some ⟨ab,0,none⟩) 4 4,.int .u64 d] w fun e w'=>e=.returned (.tuple #[.int .u64 0,.int .i64 (opStore c s p x0 (idxI x1) (leB v m)).1])∧
   Scene F W (hpA a c (opStore c s p x0 (idxI x1) (leB v m)).2::blockC ab (.cells #[.int .u64 x0,.int .u64 x1,.int .u64 m,.int .u64 v] 22 (0,0))::cs) w':=by
 have hSH:=Lib.hid hS;have c2:=cells_of (hS.block 1 rfl);have hmd:decide ((8:Int)<m)=false:=by simp;omega
 obtain⟨so,hso⟩:∃so,opStore c s p x0 (idxI x1) (leB v m)=so:=⟨_,rfl⟩;rw[hso];have hsoH:=Lib.hid hso;clear hS hso;go_enter Tryz.func8,Tryz.ntmps8;go_wp2_with fail;refine(arity_6 _).mono ?_;rintro e w1 ⟨rfl,hm1⟩;have hS0:=hSH.out.then hm1;have c2:=cells_of (hS0.block 1 rfl);have hS1:=hS0.alloc (.cells #[.pointer (some ⟨a.hb,0,none⟩),.int .i64 p,.slice none 0 0,.slice (some ⟨ab,0,none⟩) 4 4,.int .u64 d] 79);have hop:=livedo_6 hc hI hk (p:=p) (d:=d) hm8 r0 r1 rv hS1.swap;rw[hsoH.out]at hop;have hop:=Lib.hid hop;clear hSH hS1 hS0 hm1 r0 r1 rv hI hc hk;go_wp2_with fail;refine hop.out.mono ?_;rintro e w2 ⟨rfl,hS2⟩;have hS2:=Lib.hid (hS2.erase 1);clear hop c2;by_cases he:so.1=0
 ·have h1:(so.1==0)=true:=by simp[he]
  obtain⟨so1,so2⟩:=so;simp only at he;subst he;go_wp2_with fail;go_ret2;exact⟨rfl,hS2.out⟩
 ·have h1:(so.1==0)=false:=by simp[he]
  have h2:(so.1 != 0)=true:=by simp[he]
  clear he;go_wp2_with fail;go_ret2;exact⟨rfl,hS2.out⟩
theorem live_load (hc:c.Ok) (hI:HInv c k s) (hk:k≤900) {p d x0 x1:Int} {ab m:Nat} (hm8:m≤8) (r0:0≤x0∧x0≤18446744073709551615) (r1:0≤x1∧x1≤18446744073709551615)
  (hS:Scene F W (hpA a c s::blockC ab (.cells #[.int .u64 x0,.int .u64 x1,.int .u64 m] 22 (0,0))::cs) w):
  Calls Tryz.prog 8 #[.pointer (some ⟨a.hb,0,none⟩),.int .i64 p,.slice none 0 0,.int .i64 5,.slice (some ⟨ab,0,none⟩) 3 3,.int .u64 d] w fun e w'=>e=.returned (.tuple #[.int .u64 (little (opLoadB c s p x0 (idxI x1) m)),.int .i64 (opLoad c s p x0 (idxI x1) m).1])∧
   Scene F W (hpA a c (opLoad c s p x0 (idxI x1) m).2::blockC ab (.cells #[.int .u64 x0,.int .u64 x1,.int .u64 m] 22 (0,0))::cs) w':=by
 have hSH:=Lib.hid hS;have c2:=cells_of (hS.block 1 rfl);have hmd:decide ((8:Int)<m)=false:=by simp;omega
 have hbad:(opLoad c s p x0 (idxI x1) m).1≠0→little (opLoadB c s p x0 (idxI x1) m)=0:=fun h=>by unfold opLoadB;rw[if_neg h];rfl
 obtain⟨so,hso⟩:∃so,opLoad c s p x0 (idxI x1) m=so:=⟨_,rfl⟩;obtain⟨lv,hlv⟩:∃lv,little (opLoadB c s p x0 (idxI x1) m)=lv:=⟨_,rfl⟩;rw[hso,hlv]at hbad;rw[hso,hlv];have hsoH:=Lib.hid (And.intro hso hlv);have hbad:=Lib.hid hbad;clear hS hso hlv;go_enter Tryz.func8,Tryz.ntmps8;go_wp2_with fail;refine(arity_5 _).mono ?_;rintro e w1 ⟨rfl,hm1⟩;have hS0:=hSH.out.then hm1;have c2:=cells_of (hS0.block 1 rfl);have hS1:=hS0.alloc (.cells #[.pointer (some ⟨a.hb,0,none⟩),.int .i64 p,.slice none 0 0,.slice (some ⟨ab,0,none⟩) 3 3,.int .u64 d] 79);have hop:=livedo_5 hc hI hk (p:=p) (d:=d) hm8 r0 r1 hS1.swap;rw[hsoH.out.1,hsoH.out.2]at hop;have hop:=Lib.hid hop;clear hSH hS1 hS0 hm1 r0 r1 hI hc hk;go_wp2_with fail;refine hop.out.mono ?_;rintro e w2 ⟨rfl,hS2⟩;have hS2:=Lib.hid (hS2.erase 1);clear hop c2;by_cases he:so.1=0
 ·have h1:(so.1==0)=true:=by simp[he]
  obtain⟨so1,so2⟩:=so;simp only at he;subst he;go_wp2_with fail;go_ret2;exact⟨rfl,hS2.out⟩
 ·have h1:(so.1==0)=false:=by simp[he]
  have h2:(so.1 != 0)=true:=by simp[he]
  have hz:=hbad.out he;subst hz;clear he;go_wp2_with fail;go_ret2;exact⟨rfl,hS2.out⟩
end
end Go.Proofs.YtgfdeiijblakfaaGreat
