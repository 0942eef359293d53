/- HostcallNone: its calls, and the walk of the law. -/
import Derived.Test.YtgfdeiijblakfaaGreatDoA
import Derived.Test.YtgfdeiijblakfaaGreatC01
import Derived.Test.YtgfdeiijblakfaaGreatC02
import Derived.Test.YtgfdeiijblakfaaGreatC04
import Derived.Test.YtgfdeiijblakfaaGreatC06
import Derived.Test.YtgfdeiijblakfaaGreatC07
import Derived.Test.YtgfdeiijblakfaaGreatC08
import Derived.Test.YtgfdeiijblakfaaGreatC09
import Derived.Test.YtgfdeiijblakfaaGreatC10
import Derived.Test.YtgfdeiijblakfaaGreatC13
import Derived.Test.YtgfdeiijblakfaaGreatC14
import Derived.Test.YtgfdeiijblakfaaGreatC16
import Derived.Test.YtgfdeiijblakfaaGreatC17
import Derived.Test.YtgfdeiijblakfaaGreatC18
import Derived.Test.YtgfdeiijblakfaaGreatC19
import Derived.Test.YtgfdeiijblakfaaGreatC20
import Derived.Test.YtgfdeiijblakfaaGreatC21
import Derived.Test.YtgfdeiijblakfaaGreatC25
import Derived.Test.YtgfdeiijblakfaaGreatC26
import Derived.Test.YtgfdeiijblakfaaGreatC27
import Derived.Test.YtgfdeiijblakfaaGreatC28
import Derived.Test.YtgfdeiijblakfaaGreatC30
import Derived.Test.YtgfdeiijblakfaaGreatC31
import Derived.Test.YtgfdeiijblakfaaGreatC33
import Derived.Test.YtgfdeiijblakfaaGreatC38
import Derived.Test.YtgfdeiijblakfaaGreatC39
import Derived.Test.YtgfdeiijblakfaaGreatCS
set_option maxHeartbeats 8000000
set_option maxRecDepth 20000
namespace Go.Proofs.YtgfdeiijblakfaaGreat
open Go Go.RowKit Go.Stg
theorem nulh_store2 {w:World} {q:Option Addr} (h:NulH w q) (p o off:Int) (sa:Option Addr) (sl sc:Nat):Calls Tryz.prog 94 #[.pointer q,.int .i64 p,.int .u64 o,.int .i64 off,.slice sa sl sc] w fun e w'=>e=.returned (.int .i64 15)∧Mod [] w w':=by
 have hS1:=(((((((Scene.empty w).alloc (.cells #[.pointer q] 23)).alloc (.cells #[.int .i64 p] 3)).alloc (.cells #[.int .u64 o] 74)).alloc (.cells #[.int .i64 off] 3)).alloc (.cells #[.slice sa sl sc] 81)).alloc (.cells #[.int .i64 p,.int .i64 6,.int .u64 o,.int .u64 (u64 off),.int .i64 0] 76));simp only[size_alloc]at hS1;have hS1:=Lib.hid hS1;have hA:=Lib.hid fun w' hm=> @nulh_act w' q (h.mod hm)
 clear h;go_enter Tryz.func94,Tryz.ntmps94;go_wp2_with fail;refine(hA.out _ hS1.out.mod (hS1.out.block 0 rfl) _).mono ?_;rintro e w1 ⟨rfl,hm⟩;have hS2:=hS1.out.then hm;have hm2:=Lib.hid hS2.mod;clear hS2 hA hm;go_wp2_with fail;go_ret;exact⟨rfl,hm2.out⟩
theorem nulc_store {w:World} {cb:Nat} {p:Int} {tv:Value} {ab cap:Nat} {d:Int} {cs:Array Value} {T:TypeId} {xs:Nat→Int} {q:Option Addr} (h:NulH w q) {m:Nat} (hm8:m≤8) (hx2:xs 2=m) (hc:CallAt w cb (.pointer q) p tv ab 4 cap d cs T xs):
  Calls Tryz.prog 52 #[.pointer (some ⟨cb,0,none⟩)] w fun e w'=>e=.returned (.int .i64 15)∧Mod [] w w':=by
 have hH:=Lib.hid fun w' (hm:Mod [] w w')=>hc.mod hm
 have hN:=Lib.hid fun w' (hm:Mod [] w w')=>h.mod hm
 have hi:=cindex_ok hc 2 (by omega);rw[show idxI (xs 2)=m by rw[hx2];unfold idxI;rw[if_neg (by omega)]]at hi;have hi:=Lib.hid hi;clear hc h hx2;go_enter Tryz.func52,Tryz.ntmps52;go_wp2_with fail;refine hi.out.mono ?_;rintro e w1 ⟨rfl,hm1⟩;obtain⟨w2,h1,h2,h3⟩:=make_bytes m (by omega) w1;have h2H:=Lib.hid h2;have hm2:=Lib.hid (hm1.nil_then h3);have hBg:=Lib.hid hm1.size;clear h2 h3 hi hm1;go_wp2_with fail;clear h1;generalize w1.heap.size=B at*;go_loopw [10] (fun i wr=>∃k:Nat,k≤m∧i=.int .i64 k∧Mod [] w wr∧wr.ownsRow B 5 1 (.slice (some ⟨B,0,none⟩) m m) m (bvals (leB (xs 3) k++List.replicate (m-k) 0))) (fun i _=>m-(intOf i).toNat)
 case atStart=>exact⟨0,by omega,rfl,hm2.out,h2H.out⟩
 case round=>
  obtain⟨k,hkm,rfl,hm,hr⟩:=hrel;have hmH:=Lib.hid hm;have hrH:=Lib.hid hr;clear hm hr;by_cases hlt:k<m
  ·have hcase:k=0∨k=1∨k=2∨k=3∨k=4∨k=5∨k=6∨k=7:=by omega
   rcases hcase with rfl|rfl|rfl|rfl|rfl|rfl|rfl|rfl
   ·have hx:=hH.out _ hmH.out;have hcb:=cells_of hx.blk;have hx3:wr.cell? ⟨ab,3,none⟩=some (.int .u64 (xs 3)):=by rw[cells_of hx.arr 3];exact hx.val 3 (by omega)
    have hck:=(hrH.out.cellAt 0 (by omega)).trans (List.getElem?_eq_getElem (by rw[bvals_len,List.length_append,leB_len,List.length_replicate];omega));have hfr:=hrH.out.frozenAt;have hdk:decide ((((0:Nat):Int))<(m:Int))=true:=by simp;omega
    have hst:=Lib.hid (bvals_step (xs 3) (k:=0) (m:=m) hlt);clear hx;simp only[show((0:Nat):Int)=0 from rfl]at hdk;simp only[show((0:Nat):Int)=0 from rfl];go_wp2_with fail;go_roundw
    case rel=>
     have h1:=(hrH.out.stored 0 (.int .u8 (xs 3/256^0%256))).1;rw[hst.out]at h1;simp only[Int.reducePow,Nat.reduceAdd]at h1;refine⟨1,by omega,by go_num,hmH.out.setCell (.inr hBg.out) _,?_⟩
     first
     |exact h1
     |(rw[Int.ediv_one]at h1;exact h1)
    case measure=>simp[intOf];omega
   ·have hx:=hH.out _ hmH.out;have hcb:=cells_of hx.blk;have hx3:wr.cell? ⟨ab,3,none⟩=some (.int .u64 (xs 3)):=by rw[cells_of hx.arr 3];exact hx.val 3 (by omega)
    have hck:=(hrH.out.cellAt 1 (by omega)).trans (List.getElem?_eq_getElem (by rw[bvals_len,List.length_append,leB_len,List.length_replicate];omega));have hfr:=hrH.out.frozenAt;have hdk:decide ((((1:Nat):Int))<(m:Int))=true:=by simp;omega
    have hst:=Lib.hid (bvals_step (xs 3) (k:=1) (m:=m) hlt);clear hx;simp only[show((1:Nat):Int)=1 from rfl]at hdk;simp only[show((1:Nat):Int)=1 from rfl];go_wp2_with fail;go_roundw
    case rel=>
     have h1:=(hrH.out.stored 1 (.int .u8 (xs 3/256^1%256))).1;rw[hst.out]at h1;simp only[Int.reducePow,Nat.reduceAdd]at h1;refine⟨2,by omega,by go_num,hmH.out.setCell (.inr hBg.out) _,?_⟩
     first
     |exact h1
     |(rw[Int.ediv_one]at h1;exact h1)
    case measure=>simp[intOf];omega
   ·have hx:=hH.out _ hmH.out;have hcb:=cells_of hx.blk;have hx3:wr.cell? ⟨ab,3,none⟩=some (.int .u64 (xs 3)):=by rw[cells_of hx.arr 3];exact hx.val 3 (by omega)
    have hck:=(hrH.out.cellAt 2 (by omega)).trans (List.getElem?_eq_getElem (by rw[bvals_len,List.length_append,leB_len,List.length_replicate];omega));have hfr:=hrH.out.frozenAt;have hdk:decide ((((2:Nat):Int))<(m:Int))=true:=by simp;omega
    have hst:=Lib.hid (bvals_step (xs 3) (k:=2) (m:=m) hlt);clear hx;simp only[show((2:Nat):Int)=2 from rfl]at hdk;simp only[show((2:Nat):Int)=2 from rfl];go_wp2_with fail;go_roundw
    case rel=>
     have h1:=(hrH.out.stored 2 (.int .u8 (xs 3/256^2%256))).1;rw[hst.out]at h1;simp only[Int.reducePow,Nat.reduceAdd]at h1;refine⟨3,by omega,by go_num,hmH.out.setCell (.inr hBg.out) _,?_⟩
     first
     |exact h1
     |(rw[Int.ediv_one]at h1;exact h1)
    case measure=>simp[intOf];omega
   ·have hx:=hH.out _ hmH.out;have hcb:=cells_of hx.blk;have hx3:wr.cell? ⟨ab,3,none⟩=some (.int .u64 (xs 3)):=by rw[cells_of hx.arr 3];exact hx.val 3 (by omega)
    have hck:=(hrH.out.cellAt 3 (by omega)).trans (List.getElem?_eq_getElem (by rw[bvals_len,List.length_append,leB_len,List.length_replicate];omega));have hfr:=hrH.out.frozenAt;have hdk:decide ((((3:Nat):Int))<(m:Int))=true:=by simp;omega
    have hst:=Lib.hid (bvals_step (xs 3) (k:=3) (m:=m) hlt);clear hx;simp only[show((3:Nat):Int)=3 from rfl]at hdk;simp only[show((3:Nat):Int)=3 from rfl];go_wp2_with fail;go_roundw
    case rel=>
     have h1:=(hrH.out.stored 3 (.int .u8 (xs 3/256^3%256))).1;rw[hst.out]at h1;simp only[Int.reducePow,Nat.reduceAdd]at h1;refine⟨4,by omega,by go_num,hmH.out.setCell (.inr hBg.out) _,?_⟩
     first
     |exact h1
     |(rw[Int.ediv_one]at h1;exact h1)
    case measure=>simp[intOf];omega
   ·have hx:=hH.out _ hmH.out;have hcb:=cells_of hx.blk;have hx3:wr.cell? ⟨ab,3,none⟩=some (.int .u64 (xs 3)):=by rw[cells_of hx.arr 3];exact hx.val 3 (by omega)
    have hck:=(hrH.out.cellAt 4 (by omega)).trans (List.getElem?_eq_getElem (by rw[bvals_len,List.length_append,leB_len,List.length_replicate];omega));have hfr:=hrH.out.frozenAt;have hdk:decide ((((4:Nat):Int))<(m:Int))=true:=by simp;omega
    have hst:=Lib.hid (bvals_step (xs 3) (k:=4) (m:=m) hlt);clear hx;simp only[show((4:Nat):Int)=4 from rfl]at hdk;simp only[show((4:Nat):Int)=4 from rfl];go_wp2_with fail;go_roundw
    case rel=>
     have h1:=(hrH.out.stored 4 (.int .u8 (xs 3/256^4%256))).1;rw[hst.out]at h1;simp only[Int.reducePow,Nat.reduceAdd]at h1;refine⟨5,by omega,by go_num,hmH.out.setCell (.inr hBg.out) _,?_⟩
     first
     |exact h1
     |(rw[Int.ediv_one]at h1;exact h1)
    case measure=>simp[intOf];omega
   ·have hx:=hH.out _ hmH.out;have hcb:=cells_of hx.blk;have hx3:wr.cell? ⟨ab,3,none⟩=some (.int .u64 (xs 3)):=by rw[cells_of hx.arr 3];exact hx.val 3 (by omega)
    have hck:=(hrH.out.cellAt 5 (by omega)).trans (List.getElem?_eq_getElem (by rw[bvals_len,List.length_append,leB_len,List.length_replicate];omega));have hfr:=hrH.out.frozenAt;have hdk:decide ((((5:Nat):Int))<(m:Int))=true:=by simp;omega
    have hst:=Lib.hid (bvals_step (xs 3) (k:=5) (m:=m) hlt);clear hx;simp only[show((5:Nat):Int)=5 from rfl]at hdk;simp only[show((5:Nat):Int)=5 from rfl];go_wp2_with fail;go_roundw
    case rel=>
     have h1:=(hrH.out.stored 5 (.int .u8 (xs 3/256^5%256))).1;rw[hst.out]at h1;simp only[Int.reducePow,Nat.reduceAdd]at h1;refine⟨6,by omega,by go_num,hmH.out.setCell (.inr hBg.out) _,?_⟩
     first
     |exact h1
     |(rw[Int.ediv_one]at h1;exact h1)
    case measure=>simp[intOf];omega
   ·have hx:=hH.out _ hmH.out;have hcb:=cells_of hx.blk;have hx3:wr.cell? ⟨ab,3,none⟩=some (.int .u64 (xs 3)):=by rw[cells_of hx.arr 3];exact hx.val 3 (by omega)
    have hck:=(hrH.out.cellAt 6 (by omega)).trans (List.getElem?_eq_getElem (by rw[bvals_len,List.length_append,leB_len,List.length_replicate];omega));have hfr:=hrH.out.frozenAt;have hdk:decide ((((6:Nat):Int))<(m:Int))=true:=by simp;omega
    have hst:=Lib.hid (bvals_step (xs 3) (k:=6) (m:=m) hlt);clear hx;simp only[show((6:Nat):Int)=6 from rfl]at hdk;simp only[show((6:Nat):Int)=6 from rfl];go_wp2_with fail;go_roundw
    case rel=>
     have h1:=(hrH.out.stored 6 (.int .u8 (xs 3/256^6%256))).1;rw[hst.out]at h1;simp only[Int.reducePow,Nat.reduceAdd]at h1;refine⟨7,by omega,by go_num,hmH.out.setCell (.inr hBg.out) _,?_⟩
     first
     |exact h1
     |(rw[Int.ediv_one]at h1;exact h1)
    case measure=>simp[intOf];omega
   ·have hx:=hH.out _ hmH.out;have hcb:=cells_of hx.blk;have hx3:wr.cell? ⟨ab,3,none⟩=some (.int .u64 (xs 3)):=by rw[cells_of hx.arr 3];exact hx.val 3 (by omega)
    have hck:=(hrH.out.cellAt 7 (by omega)).trans (List.getElem?_eq_getElem (by rw[bvals_len,List.length_append,leB_len,List.length_replicate];omega));have hfr:=hrH.out.frozenAt;have hdk:decide ((((7:Nat):Int))<(m:Int))=true:=by simp;omega
    have hst:=Lib.hid (bvals_step (xs 3) (k:=7) (m:=m) hlt);clear hx;simp only[show((7:Nat):Int)=7 from rfl]at hdk;simp only[show((7:Nat):Int)=7 from rfl];go_wp2_with fail;go_roundw
    case rel=>
     have h1:=(hrH.out.stored 7 (.int .u8 (xs 3/256^7%256))).1;rw[hst.out]at h1;simp only[Int.reducePow,Nat.reduceAdd]at h1;refine⟨8,by omega,by go_num,hmH.out.setCell (.inr hBg.out) _,?_⟩
     first
     |exact h1
     |(rw[Int.ediv_one]at h1;exact h1)
    case measure=>simp[intOf];omega
  ·obtain rfl:k=m:=by omega
   have hH3:=Lib.hid fun w' (hm:Mod [] wr w')=>hH.out _ (hmH.out.nil_then hm)
   have hN3:=Lib.hid fun w' (hm:Mod [] wr w')=>hN.out _ (hmH.out.nil_then hm)
   have k1:=GW.cells (S:=[]) (hH.out _ hmH.out).blk (by simp);clear hrH hH hN h2H hm2;go_wp2_with fail;refine wp_region_pure (by kernel_rfl) (by kernel_rfl) ?_;refine stage_quiet 9 (by kernel_rfl) ?_;simp only[List.take_succ_cons,List.take_zero,List.drop_succ_cons,List.drop_zero]
   repeat (go_big_quiet_step (fail))
   refine wpQuiet_nil ?_;refine stage_pure 47 #[.pointer (some ⟨cb,0,none⟩),.int .i64 0] (.int .u64 (xs 0)) rfl Tryz.call47 rfl rfl (fun w' hm=>chandle_ok (hH3.out _ hm) 0 (by omega)) ?_;simp only[Act.put,List.setIfInBounds_toArray,List.set_cons_succ,List.set_cons_zero];refine stage_quiet 1 (by kernel_rfl) ?_;simp only[List.take_succ_cons,List.take_zero,List.drop_succ_cons,List.drop_zero]
   repeat (go_big_quiet_step (fail))
   refine wpQuiet_nil ?_;refine stage_pure 49 #[.pointer (some ⟨cb,0,none⟩),.int .i64 1] (.int .i64 (idxI (xs 1))) rfl Tryz.call49 rfl rfl (fun w' hm=>cindex_ok (hH3.out _ hm) 1 (by omega)) ?_;simp only[Act.put,List.setIfInBounds_toArray,List.set_cons_succ,List.set_cons_zero];refine stage_quiet 1 (by kernel_rfl) ?_;simp only[List.take_succ_cons,List.take_zero,List.drop_succ_cons,List.drop_zero]
   repeat (go_big_quiet_step (fail))
   refine wpQuiet_nil ?_;refine stage_pure 94 #[.pointer q,.int .i64 p,.int .u64 (xs 0),.int .i64 (idxI (xs 1)),.slice (some ⟨B,0,none⟩) k k] (.int .i64 15) rfl Tryz.call94 rfl rfl (fun w' hm=>nulh_store2 (hN3.out _ hm) p _ _ _ _ _) ?_;simp only[Act.put,List.setIfInBounds_toArray,List.set_cons_succ,List.set_cons_zero];refine stage_quiet 1 (by kernel_rfl) ?_;simp only[List.take_succ_cons,List.take_zero,List.drop_succ_cons,List.drop_zero]
   repeat (go_big_quiet_step (fail))
   refine wpQuiet_nil ?_;refine stage_nil fun w5 hw5=> ?_
   have hm5:=Lib.hid (hmH.out.nil_then hw5);clear k1 hH3 hN3 hmH hw5;go_wp2_with fail;go_ret;exact⟨rfl,hm5.out⟩
theorem nuldo_6 {w:World} {cb:Nat} {p:Int} {tv:Value} {ab cap:Nat} {d:Int} {cs:Array Value} {T:TypeId} {xs:Nat→Int} {q:Option Addr} (h:NulH w q) {m:Nat} (hm8:m≤8) (hx2:xs 2=m) (hc:CallAt w cb (.pointer q) p tv ab 4 cap d cs T xs):
  Calls Tryz.prog 25 #[.pointer (some ⟨cb,0,none⟩),.int .i64 6] w fun e w'=>e=.returned (.tuple #[.int .u64 0,.int .i64 15])∧Mod [] w w':=by
 have hl:=Lib.hid (nulc_store h hm8 hx2 hc);clear h hc hm8 hx2;go_enter Tryz.func25,Tryz.ntmps25;go_wp2_with fail;refine hl.out.mono ?_;rintro e w1 ⟨rfl,hm⟩;go_wp2_with fail;go_ret2;exact⟨rfl,hm⟩
theorem rarity_1 (w:World):Calls Tryz.prog 10 #[.int .i64 1] w fun e w'=>e=.returned (.tuple #[.int .i64 1,.bool true])∧Mod [] w w':=by
 have hm:=Lib.hid ((Mod.refl [] w).alloc (.cells #[.int .i64 0,.int .i64 1,.int .i64 1,.int .i64 2,.int .i64 3,.int .i64 3,.int .i64 4,.int .i64 5,.int .i64 2,.int .i64 2,.int .i64 2,.int .i64 1] 3));have hc:=cells_of (at_alloc w (.cells #[.int .i64 0,.int .i64 1,.int .i64 1,.int .i64 2,.int .i64 3,.int .i64 3,.int .i64 4,.int .i64 5,.int .i64 2,.int .i64 2,.int .i64 2,.int .i64 1] 3));go_enter Tryz.func10,Tryz.ntmps10;go_wp2_with fail;go_ret2;exact⟨rfl,hm.out⟩
theorem arity_2 (w:World):Calls Tryz.prog 24 #[.int .i64 2] w fun e w'=>e=.returned (.tuple #[.int .i64 1,.bool true])∧Mod [] w w':=by
 go_enter Tryz.func24,Tryz.ntmps24;go_wp2_with fail;go_ret2;exact⟨rfl,Mod.refl _ _⟩
theorem rarity_2 (w:World):Calls Tryz.prog 10 #[.int .i64 2] w fun e w'=>e=.returned (.tuple #[.int .i64 1,.bool true])∧Mod [] w w':=by
 have hm:=Lib.hid ((Mod.refl [] w).alloc (.cells #[.int .i64 0,.int .i64 1,.int .i64 1,.int .i64 2,.int .i64 3,.int .i64 3,.int .i64 4,.int .i64 5,.int .i64 2,.int .i64 2,.int .i64 2,.int .i64 1] 3));have hc:=cells_of (at_alloc w (.cells #[.int .i64 0,.int .i64 1,.int .i64 1,.int .i64 2,.int .i64 3,.int .i64 3,.int .i64 4,.int .i64 5,.int .i64 2,.int .i64 2,.int .i64 2,.int .i64 1] 3));go_enter Tryz.func10,Tryz.ntmps10;go_wp2_with fail;go_ret2;exact⟨rfl,hm.out⟩
theorem arity_3 (w:World):Calls Tryz.prog 24 #[.int .i64 3] w fun e w'=>e=.returned (.tuple #[.int .i64 2,.bool true])∧Mod [] w w':=by
 go_enter Tryz.func24,Tryz.ntmps24;go_wp2_with fail;go_ret2;exact⟨rfl,Mod.refl _ _⟩
theorem rarity_3 (w:World):Calls Tryz.prog 10 #[.int .i64 3] w fun e w'=>e=.returned (.tuple #[.int .i64 2,.bool true])∧Mod [] w w':=by
 have hm:=Lib.hid ((Mod.refl [] w).alloc (.cells #[.int .i64 0,.int .i64 1,.int .i64 1,.int .i64 2,.int .i64 3,.int .i64 3,.int .i64 4,.int .i64 5,.int .i64 2,.int .i64 2,.int .i64 2,.int .i64 1] 3));have hc:=cells_of (at_alloc w (.cells #[.int .i64 0,.int .i64 1,.int .i64 1,.int .i64 2,.int .i64 3,.int .i64 3,.int .i64 4,.int .i64 5,.int .i64 2,.int .i64 2,.int .i64 2,.int .i64 1] 3));go_enter Tryz.func10,Tryz.ntmps10;go_wp2_with fail;go_ret2;exact⟨rfl,hm.out⟩
theorem arity_4 (w:World):Calls Tryz.prog 24 #[.int .i64 4] w fun e w'=>e=.returned (.tuple #[.int .i64 3,.bool true])∧Mod [] w w':=by
 go_enter Tryz.func24,Tryz.ntmps24;go_wp2_with fail;go_ret2;exact⟨rfl,Mod.refl _ _⟩
theorem rarity_4 (w:World):Calls Tryz.prog 10 #[.int .i64 4] w fun e w'=>e=.returned (.tuple #[.int .i64 3,.bool true])∧Mod [] w w':=by
 have hm:=Lib.hid ((Mod.refl [] w).alloc (.cells #[.int .i64 0,.int .i64 1,.int .i64 1,.int .i64 2,.int .i64 3,.int .i64 3,.int .i64 4,.int .i64 5,.int .i64 2,.int .i64 2,.int .i64 2,.int .i64 1] 3));have hc:=cells_of (at_alloc w (.cells #[.int .i64 0,.int .i64 1,.int .i64 1,.int .i64 2,.int .i64 3,.int .i64 3,.int .i64 4,.int .i64 5,.int .i64 2,.int .i64 2,.int .i64 2,.int .i64 1] 3));go_enter Tryz.func10,Tryz.ntmps10;go_wp2_with fail;go_ret2;exact⟨rfl,hm.out⟩
theorem rarity_5 (w:World):Calls Tryz.prog 10 #[.int .i64 5] w fun e w'=>e=.returned (.tuple #[.int .i64 3,.bool true])∧Mod [] w w':=by
 have hm:=Lib.hid ((Mod.refl [] w).alloc (.cells #[.int .i64 0,.int .i64 1,.int .i64 1,.int .i64 2,.int .i64 3,.int .i64 3,.int .i64 4,.int .i64 5,.int .i64 2,.int .i64 2,.int .i64 2,.int .i64 1] 3));have hc:=cells_of (at_alloc w (.cells #[.int .i64 0,.int .i64 1,.int .i64 1,.int .i64 2,.int .i64 3,.int .i64 3,.int .i64 4,.int .i64 5,.int .i64 2,.int .i64 2,.int .i64 2,.int .i64 1] 3));go_enter Tryz.func10,Tryz.ntmps10;go_wp2_with fail;go_ret2;exact⟨rfl,hm.out⟩
theorem rarity_6 (w:World):Calls Tryz.prog 10 #[.int .i64 6] w fun e w'=>e=.returned (.tuple #[.int .i64 4,.bool true])∧Mod [] w w':=by
 have hm:=Lib.hid ((Mod.refl [] w).alloc (.cells #[.int .i64 0,.int .i64 1,.int .i64 1,.int .i64 2,.int .i64 3,.int .i64 3,.int .i64 4,.int .i64 5,.int .i64 2,.int .i64 2,.int .i64 2,.int .i64 1] 3));have hc:=cells_of (at_alloc w (.cells #[.int .i64 0,.int .i64 1,.int .i64 1,.int .i64 2,.int .i64 3,.int .i64 3,.int .i64 4,.int .i64 5,.int .i64 2,.int .i64 2,.int .i64 2,.int .i64 1] 3));go_enter Tryz.func10,Tryz.ntmps10;go_wp2_with fail;go_ret2;exact⟨rfl,hm.out⟩
theorem arity_7 (w:World):Calls Tryz.prog 24 #[.int .i64 7] w fun e w'=>e=.returned (.tuple #[.int .i64 5,.bool true])∧Mod [] w w':=by
 go_enter Tryz.func24,Tryz.ntmps24;go_wp2_with fail;go_ret2;exact⟨rfl,Mod.refl _ _⟩
theorem rarity_7 (w:World):Calls Tryz.prog 10 #[.int .i64 7] w fun e w'=>e=.returned (.tuple #[.int .i64 5,.bool true])∧Mod [] w w':=by
 have hm:=Lib.hid ((Mod.refl [] w).alloc (.cells #[.int .i64 0,.int .i64 1,.int .i64 1,.int .i64 2,.int .i64 3,.int .i64 3,.int .i64 4,.int .i64 5,.int .i64 2,.int .i64 2,.int .i64 2,.int .i64 1] 3));have hc:=cells_of (at_alloc w (.cells #[.int .i64 0,.int .i64 1,.int .i64 1,.int .i64 2,.int .i64 3,.int .i64 3,.int .i64 4,.int .i64 5,.int .i64 2,.int .i64 2,.int .i64 2,.int .i64 1] 3));go_enter Tryz.func10,Tryz.ntmps10;go_wp2_with fail;go_ret2;exact⟨rfl,hm.out⟩
theorem arity_8 (w:World):Calls Tryz.prog 24 #[.int .i64 8] w fun e w'=>e=.returned (.tuple #[.int .i64 2,.bool true])∧Mod [] w w':=by
 go_enter Tryz.func24,Tryz.ntmps24;go_wp2_with fail;go_ret2;exact⟨rfl,Mod.refl _ _⟩
theorem rarity_8 (w:World):Calls Tryz.prog 10 #[.int .i64 8] w fun e w'=>e=.returned (.tuple #[.int .i64 2,.bool true])∧Mod [] w w':=by
 have hm:=Lib.hid ((Mod.refl [] w).alloc (.cells #[.int .i64 0,.int .i64 1,.int .i64 1,.int .i64 2,.int .i64 3,.int .i64 3,.int .i64 4,.int .i64 5,.int .i64 2,.int .i64 2,.int .i64 2,.int .i64 1] 3));have hc:=cells_of (at_alloc w (.cells #[.int .i64 0,.int .i64 1,.int .i64 1,.int .i64 2,.int .i64 3,.int .i64 3,.int .i64 4,.int .i64 5,.int .i64 2,.int .i64 2,.int .i64 2,.int .i64 1] 3));go_enter Tryz.func10,Tryz.ntmps10;go_wp2_with fail;go_ret2;exact⟨rfl,hm.out⟩
theorem arity_9 (w:World):Calls Tryz.prog 24 #[.int .i64 9] w fun e w'=>e=.returned (.tuple #[.int .i64 2,.bool true])∧Mod [] w w':=by
 go_enter Tryz.func24,Tryz.ntmps24;go_wp2_with fail;go_ret2;exact⟨rfl,Mod.refl _ _⟩
theorem rarity_9 (w:World):Calls Tryz.prog 10 #[.int .i64 9] w fun e w'=>e=.returned (.tuple #[.int .i64 2,.bool true])∧Mod [] w w':=by
 have hm:=Lib.hid ((Mod.refl [] w).alloc (.cells #[.int .i64 0,.int .i64 1,.int .i64 1,.int .i64 2,.int .i64 3,.int .i64 3,.int .i64 4,.int .i64 5,.int .i64 2,.int .i64 2,.int .i64 2,.int .i64 1] 3));have hc:=cells_of (at_alloc w (.cells #[.int .i64 0,.int .i64 1,.int .i64 1,.int .i64 2,.int .i64 3,.int .i64 3,.int .i64 4,.int .i64 5,.int .i64 2,.int .i64 2,.int .i64 2,.int .i64 1] 3));go_enter Tryz.func10,Tryz.ntmps10;go_wp2_with fail;go_ret2;exact⟨rfl,hm.out⟩
theorem arity_10 (w:World):Calls Tryz.prog 24 #[.int .i64 10] w fun e w'=>e=.returned (.tuple #[.int .i64 2,.bool true])∧Mod [] w w':=by
 go_enter Tryz.func24,Tryz.ntmps24;go_wp2_with fail;go_ret2;exact⟨rfl,Mod.refl _ _⟩
theorem rarity_10 (w:World):Calls Tryz.prog 10 #[.int .i64 10] w fun e w'=>e=.returned (.tuple #[.int .i64 2,.bool true])∧Mod [] w w':=by
 have hm:=Lib.hid ((Mod.refl [] w).alloc (.cells #[.int .i64 0,.int .i64 1,.int .i64 1,.int .i64 2,.int .i64 3,.int .i64 3,.int .i64 4,.int .i64 5,.int .i64 2,.int .i64 2,.int .i64 2,.int .i64 1] 3));have hc:=cells_of (at_alloc w (.cells #[.int .i64 0,.int .i64 1,.int .i64 1,.int .i64 2,.int .i64 3,.int .i64 3,.int .i64 4,.int .i64 5,.int .i64 2,.int .i64 2,.int .i64 2,.int .i64 1] 3));go_enter Tryz.func10,Tryz.ntmps10;go_wp2_with fail;go_ret2;exact⟨rfl,hm.out⟩
theorem arity_11 (w:World):Calls Tryz.prog 24 #[.int .i64 11] w fun e w'=>e=.returned (.tuple #[.int .i64 1,.bool true])∧Mod [] w w':=by
 go_enter Tryz.func24,Tryz.ntmps24;go_wp2_with fail;go_ret2;exact⟨rfl,Mod.refl _ _⟩
theorem rarity_11 (w:World):Calls Tryz.prog 10 #[.int .i64 11] w fun e w'=>e=.returned (.tuple #[.int .i64 1,.bool true])∧Mod [] w w':=by
 have hm:=Lib.hid ((Mod.refl [] w).alloc (.cells #[.int .i64 0,.int .i64 1,.int .i64 1,.int .i64 2,.int .i64 3,.int .i64 3,.int .i64 4,.int .i64 5,.int .i64 2,.int .i64 2,.int .i64 2,.int .i64 1] 3));have hc:=cells_of (at_alloc w (.cells #[.int .i64 0,.int .i64 1,.int .i64 1,.int .i64 2,.int .i64 3,.int .i64 3,.int .i64 4,.int .i64 5,.int .i64 2,.int .i64 2,.int .i64 2,.int .i64 1] 3));go_enter Tryz.func10,Tryz.ntmps10;go_wp2_with fail;go_ret2;exact⟨rfl,hm.out⟩
theorem rindex_ok (x:Int) (h0:0≤x) (w:World):Calls Tryz.prog 27 #[.int .u64 x] w fun e w'=>e=.returned (.int .i64 (idxI x))∧Mod [] w w':=by
 unfold idxI;by_cases h:1048576<x
 ·rw[if_pos h];go_enter Tryz.func27,Tryz.ntmps27;go_wp2_with fail;go_ret;exact⟨rfl,Mod.refl _ _⟩
 ·rw[if_neg h];have hw:wrap64 x=x:=by unfold wrap64;omega
  have hd:decide (1048576<x)=false:=by simp;omega
  clear h;go_enter Tryz.func27,Tryz.ntmps27;go_wp2_with fail;go_ret;exact⟨congrArg (fun z=>Ending.returned (.int .i64 z)) hw,Mod.refl _ _⟩
def fiveO (x0 x1 x2 x3 x4:Int):Obj:=.cells #[.int .u64 x0,.int .u64 x1,.int .u64 x2,.int .u64 x3,.int .u64 x4] 46 (0,0)
theorem five_val (x0 x1 x2 x3 x4:Int):∀j,j<5→(#[.int .u64 x0,.int .u64 x1,.int .u64 x2,.int .u64 x3,.int .u64 x4]:Array Value)[j]? =some (.int .u64 ([x0,x1,x2,x3,x4].getD j 0)):=by
 intro j hj;have:j=0∨j=1∨j=2∨j=3∨j=4:=by omega
 rcases this with rfl|rfl|rfl|rfl|rfl<;>rfl
def U64 (x:Int):Prop:=0≤x∧x≤18446744073709551615
theorem five_pos {x0 x1 x2 x3 x4:Int} (r0:U64 x0) (r1:U64 x1) (r2:U64 x2) (r3:U64 x3) (r4:U64 x4):∀j,j<5→U64 ([x0,x1,x2,x3,x4].getD j 0):=by
 intro j hj;have:j=0∨j=1∨j=2∨j=3∨j=4:=by omega
 rcases this with rfl|rfl|rfl|rfl|rfl
 ·exact r0
 ·exact r1
 ·exact r2
 ·exact r3
 ·exact r4
section
variable {w:World} {ab:Nat} {x0 x1 x2 x3 x4:Int} (hb:w.heap[ab]? =some (fiveO x0 x1 x2 x3 x4)) (r0:U64 x0) (r1:U64 x1) (r2:U64 x2) (r3:U64 x3) (r4:U64 x4) (p:Int)
include hb r0 r1 r2 r3 r4
theorem donone_1:Calls Tryz.prog 8 #[.pointer none,.int .i64 p,.slice none 0 0,.int .i64 1,.slice (some ⟨ab,0,none⟩) 1 5,.int .u64 0] w fun e w'=>e=.returned (.tuple #[.int .u64 0,.int .i64 15])∧Mod [] w w':=by
 have hv:=Lib.hid (five_val x0 x1 x2 x3 x4);have hp:=Lib.hid (five_pos r0 r1 r2 r3 r4);have hbH:=Lib.hid hb;clear hb r0 r1 r2 r3 r4;unfold fiveO at hbH;go_enter Tryz.func8,Tryz.ntmps8;go_wp2_with fail;refine(arity_1 _).mono ?_;rintro e w1 ⟨rfl,hm1⟩;have hm2:=hm1.alloc (.cells #[.pointer none,.int .i64 p,.slice none 0 0,.slice (some ⟨ab,0,none⟩) 1 5,.int .u64 0] 79);have hcA:CallAt (w1.alloc (.cells #[.pointer none,.int .i64 p,.slice none 0 0,.slice (some ⟨ab,0,none⟩) 1 5,.int .u64 0] 79)) w1.heap.size (.pointer none) p (.slice none 0 0) ab 1 5 0 #[.int .u64 x0,.int .u64 x1,.int .u64 x2,.int .u64 x3,.int .u64 x4] 46 (fun j=>[x0,x1,x2,x3,x4].getD j 0):=⟨at_alloc w1 (.cells #[.pointer none,.int .i64 p,.slice none 0 0,.slice (some ⟨ab,0,none⟩) 1 5,.int .u64 0] 79),hm2.at hbH.out (by simp),fun j hj=>hv.out j (by omega),fun j hj=>hp.out j (by omega)⟩;have hop:=Lib.hid (nuldo_1 (q:=none) (.inl rfl) hcA);have hm2:=Lib.hid hm2;clear hm1 hcA hv hp hbH;go_wp2_with fail;refine hop.out.mono ?_;rintro e w2 ⟨rfl,hm3⟩;have hm4:=Lib.hid (hm2.out.nil_then hm3);clear hop hm3;go_wp2_with fail;go_ret2;exact⟨rfl,hm4.out⟩
theorem donone_2:Calls Tryz.prog 8 #[.pointer none,.int .i64 p,.slice none 0 0,.int .i64 2,.slice (some ⟨ab,0,none⟩) 1 5,.int .u64 0] w fun e w'=>e=.returned (.tuple #[.int .u64 0,.int .i64 15])∧Mod [] w w':=by
 have hv:=Lib.hid (five_val x0 x1 x2 x3 x4);have hp:=Lib.hid (five_pos r0 r1 r2 r3 r4);have hbH:=Lib.hid hb;clear hb r0 r1 r2 r3 r4;unfold fiveO at hbH;go_enter Tryz.func8,Tryz.ntmps8;go_wp2_with fail;refine(arity_2 _).mono ?_;rintro e w1 ⟨rfl,hm1⟩;have hm2:=hm1.alloc (.cells #[.pointer none,.int .i64 p,.slice none 0 0,.slice (some ⟨ab,0,none⟩) 1 5,.int .u64 0] 79);have hcA:CallAt (w1.alloc (.cells #[.pointer none,.int .i64 p,.slice none 0 0,.slice (some ⟨ab,0,none⟩) 1 5,.int .u64 0] 79)) w1.heap.size (.pointer none) p (.slice none 0 0) ab 1 5 0 #[.int .u64 x0,.int .u64 x1,.int .u64 x2,.int .u64 x3,.int .u64 x4] 46 (fun j=>[x0,x1,x2,x3,x4].getD j 0):=⟨at_alloc w1 (.cells #[.pointer none,.int .i64 p,.slice none 0 0,.slice (some ⟨ab,0,none⟩) 1 5,.int .u64 0] 79),hm2.at hbH.out (by simp),fun j hj=>hv.out j (by omega),fun j hj=>hp.out j (by omega)⟩;have hop:=Lib.hid (nuldo_2 (q:=none) (.inl rfl) hcA);have hm2:=Lib.hid hm2;clear hm1 hcA hv hp hbH;go_wp2_with fail;refine hop.out.mono ?_;rintro e w2 ⟨rfl,hm3⟩;have hm4:=Lib.hid (hm2.out.nil_then hm3);clear hop hm3;go_wp2_with fail;go_ret2;exact⟨rfl,hm4.out⟩
theorem donone_3:Calls Tryz.prog 8 #[.pointer none,.int .i64 p,.slice none 0 0,.int .i64 3,.slice (some ⟨ab,0,none⟩) 2 5,.int .u64 0] w fun e w'=>e=.returned (.tuple #[.int .u64 0,.int .i64 15])∧Mod [] w w':=by
 have hv:=Lib.hid (five_val x0 x1 x2 x3 x4);have hp:=Lib.hid (five_pos r0 r1 r2 r3 r4);have hbH:=Lib.hid hb;clear hb r0 r1 r2 r3 r4;unfold fiveO at hbH;go_enter Tryz.func8,Tryz.ntmps8;go_wp2_with fail;refine(arity_3 _).mono ?_;rintro e w1 ⟨rfl,hm1⟩;have hm2:=hm1.alloc (.cells #[.pointer none,.int .i64 p,.slice none 0 0,.slice (some ⟨ab,0,none⟩) 2 5,.int .u64 0] 79);have hcA:CallAt (w1.alloc (.cells #[.pointer none,.int .i64 p,.slice none 0 0,.slice (some ⟨ab,0,none⟩) 2 5,.int .u64 0] 79)) w1.heap.size (.pointer none) p (.slice none 0 0) ab 2 5 0 #[.int .u64 x0,.int .u64 x1,.int .u64 x2,.int .u64 x3,.int .u64 x4] 46 (fun j=>[x0,x1,x2,x3,x4].getD j 0):=⟨at_alloc w1 (.cells #[.pointer none,.int .i64 p,.slice none 0 0,.slice (some ⟨ab,0,none⟩) 2 5,.int .u64 0] 79),hm2.at hbH.out (by simp),fun j hj=>hv.out j (by omega),fun j hj=>hp.out j (by omega)⟩;have hop:=Lib.hid (nuldo_3 (q:=none) (.inl rfl) hcA);have hm2:=Lib.hid hm2;clear hm1 hcA hv hp hbH;go_wp2_with fail;refine hop.out.mono ?_;rintro e w2 ⟨rfl,hm3⟩;have hm4:=Lib.hid (hm2.out.nil_then hm3);clear hop hm3;go_wp2_with fail;go_ret2;exact⟨rfl,hm4.out⟩
theorem donone_4:Calls Tryz.prog 8 #[.pointer none,.int .i64 p,.slice none 0 0,.int .i64 4,.slice (some ⟨ab,0,none⟩) 3 5,.int .u64 0] w fun e w'=>e=.returned (.tuple #[.int .u64 0,.int .i64 15])∧Mod [] w w':=by
 have hv:=Lib.hid (five_val x0 x1 x2 x3 x4);have hp:=Lib.hid (five_pos r0 r1 r2 r3 r4);have hbH:=Lib.hid hb;clear hb r0 r1 r2 r3 r4;unfold fiveO at hbH;go_enter Tryz.func8,Tryz.ntmps8;go_wp2_with fail;refine(arity_4 _).mono ?_;rintro e w1 ⟨rfl,hm1⟩;have hm2:=hm1.alloc (.cells #[.pointer none,.int .i64 p,.slice none 0 0,.slice (some ⟨ab,0,none⟩) 3 5,.int .u64 0] 79);have hcA:CallAt (w1.alloc (.cells #[.pointer none,.int .i64 p,.slice none 0 0,.slice (some ⟨ab,0,none⟩) 3 5,.int .u64 0] 79)) w1.heap.size (.pointer none) p (.slice none 0 0) ab 3 5 0 #[.int .u64 x0,.int .u64 x1,.int .u64 x2,.int .u64 x3,.int .u64 x4] 46 (fun j=>[x0,x1,x2,x3,x4].getD j 0):=⟨at_alloc w1 (.cells #[.pointer none,.int .i64 p,.slice none 0 0,.slice (some ⟨ab,0,none⟩) 3 5,.int .u64 0] 79),hm2.at hbH.out (by simp),fun j hj=>hv.out j (by omega),fun j hj=>hp.out j (by omega)⟩;have hop:=Lib.hid (nuldo_4 (q:=none) (.inl rfl) hcA);have hm2:=Lib.hid hm2;clear hm1 hcA hv hp hbH;go_wp2_with fail;refine hop.out.mono ?_;rintro e w2 ⟨rfl,hm3⟩;have hm4:=Lib.hid (hm2.out.nil_then hm3);clear hop hm3;go_wp2_with fail;go_ret2;exact⟨rfl,hm4.out⟩
theorem donone_5 (hm:x2≤8):Calls Tryz.prog 8 #[.pointer none,.int .i64 p,.slice none 0 0,.int .i64 5,.slice (some ⟨ab,0,none⟩) 3 5,.int .u64 0] w fun e w'=>e=.returned (.tuple #[.int .u64 0,.int .i64 15])∧Mod [] w w':=by
 have hv:=Lib.hid (five_val x0 x1 x2 x3 x4);have hp:=Lib.hid (five_pos r0 r1 r2 r3 r4);have hbH:=Lib.hid hb;have hmd:decide ((8:Int)<x2)=false:=by simp;omega
 clear hb r0 r1 r2 r3 r4 hm;unfold fiveO at hbH;go_enter Tryz.func8,Tryz.ntmps8;go_wp2_with fail;refine(arity_5 _).mono ?_;rintro e w1 ⟨rfl,hm1⟩;have c2:=cells_of (hm1.at hbH.out (by simp));have hm2:=hm1.alloc (.cells #[.pointer none,.int .i64 p,.slice none 0 0,.slice (some ⟨ab,0,none⟩) 3 5,.int .u64 0] 79);have hcA:CallAt (w1.alloc (.cells #[.pointer none,.int .i64 p,.slice none 0 0,.slice (some ⟨ab,0,none⟩) 3 5,.int .u64 0] 79)) w1.heap.size (.pointer none) p (.slice none 0 0) ab 3 5 0 #[.int .u64 x0,.int .u64 x1,.int .u64 x2,.int .u64 x3,.int .u64 x4] 46 (fun j=>[x0,x1,x2,x3,x4].getD j 0):=⟨at_alloc w1 (.cells #[.pointer none,.int .i64 p,.slice none 0 0,.slice (some ⟨ab,0,none⟩) 3 5,.int .u64 0] 79),hm2.at hbH.out (by simp),fun j hj=>hv.out j (by omega),fun j hj=>hp.out j (by omega)⟩;have hop:=Lib.hid (nuldo_5 (q:=none) (.inl rfl) hcA);have hm2:=Lib.hid hm2;clear hm1 hcA hv hp hbH;go_wp2_with fail;refine hop.out.mono ?_;rintro e w2 ⟨rfl,hm3⟩;have hm4:=Lib.hid (hm2.out.nil_then hm3);clear hop hm3 c2;go_wp2_with fail;go_ret2;exact⟨rfl,hm4.out⟩
theorem donone_6 (hm:x2≤8):Calls Tryz.prog 8 #[.pointer none,.int .i64 p,.slice none 0 0,.int .i64 6,.slice (some ⟨ab,0,none⟩) 4 5,.int .u64 0] w fun e w'=>e=.returned (.tuple #[.int .u64 0,.int .i64 15])∧Mod [] w w':=by
 have hv:=Lib.hid (five_val x0 x1 x2 x3 x4);have hp:=Lib.hid (five_pos r0 r1 r2 r3 r4);have hbH:=Lib.hid hb;have hmd:decide ((8:Int)<x2)=false:=by simp;omega
 obtain⟨m,hm2,hm8⟩:∃m:Nat,x2=m∧m≤8:=⟨x2.toNat,by have:=r2.1;omega,by omega⟩;have hm2H:=Lib.hid hm2;clear hm2;clear hb r0 r1 r2 r3 r4 hm;unfold fiveO at hbH;go_enter Tryz.func8,Tryz.ntmps8;go_wp2_with fail;refine(arity_6 _).mono ?_;rintro e w1 ⟨rfl,hm1⟩;have c2:=cells_of (hm1.at hbH.out (by simp));have hm2:=hm1.alloc (.cells #[.pointer none,.int .i64 p,.slice none 0 0,.slice (some ⟨ab,0,none⟩) 4 5,.int .u64 0] 79);have hcA:CallAt (w1.alloc (.cells #[.pointer none,.int .i64 p,.slice none 0 0,.slice (some ⟨ab,0,none⟩) 4 5,.int .u64 0] 79)) w1.heap.size (.pointer none) p (.slice none 0 0) ab 4 5 0 #[.int .u64 x0,.int .u64 x1,.int .u64 x2,.int .u64 x3,.int .u64 x4] 46 (fun j=>[x0,x1,x2,x3,x4].getD j 0):=⟨at_alloc w1 (.cells #[.pointer none,.int .i64 p,.slice none 0 0,.slice (some ⟨ab,0,none⟩) 4 5,.int .u64 0] 79),hm2.at hbH.out (by simp),fun j hj=>hv.out j (by omega),fun j hj=>hp.out j (by omega)⟩;have hop:=Lib.hid (nuldo_6 (q:=none) (.inl rfl) hm8 hm2H.out hcA);have hm2:=Lib.hid hm2;clear hm1 hcA hv hp hbH;go_wp2_with fail;refine hop.out.mono ?_;rintro e w2 ⟨rfl,hm3⟩;have hm4:=Lib.hid (hm2.out.nil_then hm3);clear hop hm3 c2;go_wp2_with fail;go_ret2;exact⟨rfl,hm4.out⟩
theorem donone_7:Calls Tryz.prog 8 #[.pointer none,.int .i64 p,.slice none 0 0,.int .i64 7,.slice (some ⟨ab,0,none⟩) 5 5,.int .u64 0] w fun e w'=>e=.returned (.tuple #[.int .u64 0,.int .i64 15])∧Mod [] w w':=by
 have hv:=Lib.hid (five_val x0 x1 x2 x3 x4);have hp:=Lib.hid (five_pos r0 r1 r2 r3 r4);have hbH:=Lib.hid hb;clear hb r0 r1 r2 r3 r4;unfold fiveO at hbH;go_enter Tryz.func8,Tryz.ntmps8;go_wp2_with fail;refine(arity_7 _).mono ?_;rintro e w1 ⟨rfl,hm1⟩;have hm2:=hm1.alloc (.cells #[.pointer none,.int .i64 p,.slice none 0 0,.slice (some ⟨ab,0,none⟩) 5 5,.int .u64 0] 79);have hcA:CallAt (w1.alloc (.cells #[.pointer none,.int .i64 p,.slice none 0 0,.slice (some ⟨ab,0,none⟩) 5 5,.int .u64 0] 79)) w1.heap.size (.pointer none) p (.slice none 0 0) ab 5 5 0 #[.int .u64 x0,.int .u64 x1,.int .u64 x2,.int .u64 x3,.int .u64 x4] 46 (fun j=>[x0,x1,x2,x3,x4].getD j 0):=⟨at_alloc w1 (.cells #[.pointer none,.int .i64 p,.slice none 0 0,.slice (some ⟨ab,0,none⟩) 5 5,.int .u64 0] 79),hm2.at hbH.out (by simp),fun j hj=>hv.out j (by omega),fun j hj=>hp.out j (by omega)⟩;have hop:=Lib.hid (nuldo_7 (q:=none) (.inl rfl) hcA);have hm2:=Lib.hid hm2;clear hm1 hcA hv hp hbH;go_wp2_with fail;refine hop.out.mono ?_;rintro e w2 ⟨rfl,hm3⟩;have hm4:=Lib.hid (hm2.out.nil_then hm3);clear hop hm3;go_wp2_with fail;go_ret2;exact⟨rfl,hm4.out⟩
theorem donone_8:Calls Tryz.prog 8 #[.pointer none,.int .i64 p,.slice none 0 0,.int .i64 8,.slice (some ⟨ab,0,none⟩) 2 5,.int .u64 0] w fun e w'=>e=.returned (.tuple #[.int .u64 0,.int .i64 15])∧Mod [] w w':=by
 have hv:=Lib.hid (five_val x0 x1 x2 x3 x4);have hp:=Lib.hid (five_pos r0 r1 r2 r3 r4);have hbH:=Lib.hid hb;clear hb r0 r1 r2 r3 r4;unfold fiveO at hbH;go_enter Tryz.func8,Tryz.ntmps8;go_wp2_with fail;refine(arity_8 _).mono ?_;rintro e w1 ⟨rfl,hm1⟩;have hm2:=hm1.alloc (.cells #[.pointer none,.int .i64 p,.slice none 0 0,.slice (some ⟨ab,0,none⟩) 2 5,.int .u64 0] 79);have hcA:CallAt (w1.alloc (.cells #[.pointer none,.int .i64 p,.slice none 0 0,.slice (some ⟨ab,0,none⟩) 2 5,.int .u64 0] 79)) w1.heap.size (.pointer none) p (.slice none 0 0) ab 2 5 0 #[.int .u64 x0,.int .u64 x1,.int .u64 x2,.int .u64 x3,.int .u64 x4] 46 (fun j=>[x0,x1,x2,x3,x4].getD j 0):=⟨at_alloc w1 (.cells #[.pointer none,.int .i64 p,.slice none 0 0,.slice (some ⟨ab,0,none⟩) 2 5,.int .u64 0] 79),hm2.at hbH.out (by simp),fun j hj=>hv.out j (by omega),fun j hj=>hp.out j (by omega)⟩;have hop:=Lib.hid (nuldo_8 (q:=none) (.inl rfl) hcA);have hm2:=Lib.hid hm2;clear hm1 hcA hv hp hbH;go_wp2_with fail;refine hop.out.mono ?_;rintro e w2 ⟨rfl,hm3⟩;have hm4:=Lib.hid (hm2.out.nil_then hm3);clear hop hm3;go_wp2_with fail;go_ret2;exact⟨rfl,hm4.out⟩
theorem donone_9:Calls Tryz.prog 8 #[.pointer none,.int .i64 p,.slice none 0 0,.int .i64 9,.slice (some ⟨ab,0,none⟩) 2 5,.int .u64 0] w fun e w'=>e=.returned (.tuple #[.int .u64 0,.int .i64 15])∧Mod [] w w':=by
 have hv:=Lib.hid (five_val x0 x1 x2 x3 x4);have hp:=Lib.hid (five_pos r0 r1 r2 r3 r4);have hbH:=Lib.hid hb;clear hb r0 r1 r2 r3 r4;unfold fiveO at hbH;go_enter Tryz.func8,Tryz.ntmps8;go_wp2_with fail;refine(arity_9 _).mono ?_;rintro e w1 ⟨rfl,hm1⟩;have hm2:=hm1.alloc (.cells #[.pointer none,.int .i64 p,.slice none 0 0,.slice (some ⟨ab,0,none⟩) 2 5,.int .u64 0] 79);have hcA:CallAt (w1.alloc (.cells #[.pointer none,.int .i64 p,.slice none 0 0,.slice (some ⟨ab,0,none⟩) 2 5,.int .u64 0] 79)) w1.heap.size (.pointer none) p (.slice none 0 0) ab 2 5 0 #[.int .u64 x0,.int .u64 x1,.int .u64 x2,.int .u64 x3,.int .u64 x4] 46 (fun j=>[x0,x1,x2,x3,x4].getD j 0):=⟨at_alloc w1 (.cells #[.pointer none,.int .i64 p,.slice none 0 0,.slice (some ⟨ab,0,none⟩) 2 5,.int .u64 0] 79),hm2.at hbH.out (by simp),fun j hj=>hv.out j (by omega),fun j hj=>hp.out j (by omega)⟩;have hop:=Lib.hid (nuldo_9 (q:=none) (.inl rfl) hcA);have hm2:=Lib.hid hm2;clear hm1 hcA hv hp hbH;go_wp2_with fail;refine hop.out.mono ?_;rintro e w2 ⟨rfl,hm3⟩;have hm4:=Lib.hid (hm2.out.nil_then hm3);clear hop hm3;go_wp2_with fail;go_ret2;exact⟨rfl,hm4.out⟩
theorem donone_10:Calls Tryz.prog 8 #[.pointer none,.int .i64 p,.slice none 0 0,.int .i64 10,.slice (some ⟨ab,0,none⟩) 2 5,.int .u64 0] w fun e w'=>e=.returned (.tuple #[.int .u64 0,.int .i64 15])∧Mod [] w w':=by
 have hv:=Lib.hid (five_val x0 x1 x2 x3 x4);have hp:=Lib.hid (five_pos r0 r1 r2 r3 r4);have hbH:=Lib.hid hb;clear hb r0 r1 r2 r3 r4;unfold fiveO at hbH;go_enter Tryz.func8,Tryz.ntmps8;go_wp2_with fail;refine(arity_10 _).mono ?_;rintro e w1 ⟨rfl,hm1⟩;have hm2:=hm1.alloc (.cells #[.pointer none,.int .i64 p,.slice none 0 0,.slice (some ⟨ab,0,none⟩) 2 5,.int .u64 0] 79);have hcA:CallAt (w1.alloc (.cells #[.pointer none,.int .i64 p,.slice none 0 0,.slice (some ⟨ab,0,none⟩) 2 5,.int .u64 0] 79)) w1.heap.size (.pointer none) p (.slice none 0 0) ab 2 5 0 #[.int .u64 x0,.int .u64 x1,.int .u64 x2,.int .u64 x3,.int .u64 x4] 46 (fun j=>[x0,x1,x2,x3,x4].getD j 0):=⟨at_alloc w1 (.cells #[.pointer none,.int .i64 p,.slice none 0 0,.slice (some ⟨ab,0,none⟩) 2 5,.int .u64 0] 79),hm2.at hbH.out (by simp),fun j hj=>hv.out j (by omega),fun j hj=>hp.out j (by omega)⟩;have hop:=Lib.hid (nuldo_10 (q:=none) (.inl rfl) hcA);have hm2:=Lib.hid hm2;clear hm1 hcA hv hp hbH;go_wp2_with fail;refine hop.out.mono ?_;rintro e w2 ⟨rfl,hm3⟩;have hm4:=Lib.hid (hm2.out.nil_then hm3);clear hop hm3;go_wp2_with fail;go_ret2;exact⟨rfl,hm4.out⟩
theorem donone_11:Calls Tryz.prog 8 #[.pointer none,.int .i64 p,.slice none 0 0,.int .i64 11,.slice (some ⟨ab,0,none⟩) 1 5,.int .u64 0] w fun e w'=>e=.returned (.tuple #[.int .u64 0,.int .i64 15])∧Mod [] w w':=by
 have hv:=Lib.hid (five_val x0 x1 x2 x3 x4);have hp:=Lib.hid (five_pos r0 r1 r2 r3 r4);have hbH:=Lib.hid hb;clear hb r0 r1 r2 r3 r4;unfold fiveO at hbH;go_enter Tryz.func8,Tryz.ntmps8;go_wp2_with fail;refine(arity_11 _).mono ?_;rintro e w1 ⟨rfl,hm1⟩;have hm2:=hm1.alloc (.cells #[.pointer none,.int .i64 p,.slice none 0 0,.slice (some ⟨ab,0,none⟩) 1 5,.int .u64 0] 79);have hcA:CallAt (w1.alloc (.cells #[.pointer none,.int .i64 p,.slice none 0 0,.slice (some ⟨ab,0,none⟩) 1 5,.int .u64 0] 79)) w1.heap.size (.pointer none) p (.slice none 0 0) ab 1 5 0 #[.int .u64 x0,.int .u64 x1,.int .u64 x2,.int .u64 x3,.int .u64 x4] 46 (fun j=>[x0,x1,x2,x3,x4].getD j 0):=⟨at_alloc w1 (.cells #[.pointer none,.int .i64 p,.slice none 0 0,.slice (some ⟨ab,0,none⟩) 1 5,.int .u64 0] 79),hm2.at hbH.out (by simp),fun j hj=>hv.out j (by omega),fun j hj=>hp.out j (by omega)⟩;have hop:=Lib.hid (nuldo_11 (q:=none) (.inl rfl) hcA);have hm2:=Lib.hid hm2;clear hm1 hcA hv hp hbH;go_wp2_with fail;refine hop.out.mono ?_;rintro e w2 ⟨rfl,hm3⟩;have hm4:=Lib.hid (hm2.out.nil_then hm3);clear hop hm3;go_wp2_with fail;go_ret2;exact⟨rfl,hm4.out⟩
omit r0 r1 r2 r3 r4 in
theorem dobig_5 (hm:8<x2):Calls Tryz.prog 8 #[.pointer none,.int .i64 p,.slice none 0 0,.int .i64 5,.slice (some ⟨ab,0,none⟩) 3 5,.int .u64 0] w fun e w'=>e=.returned (.tuple #[.int .u64 0,.int .i64 1])∧Mod [] w w':=by
 have hbH:=Lib.hid hb;have hmd:decide ((8:Int)<x2)=true:=by simp[hm]
 clear hb hm;unfold fiveO at hbH;go_enter Tryz.func8,Tryz.ntmps8;go_wp2_with fail;refine(arity_5 _).mono ?_;rintro e w1 ⟨rfl,hm1⟩;have c2:=cells_of (hm1.at hbH.out (by simp));go_wp2_with fail;go_ret2;exact⟨rfl,hm1⟩
omit r0 r1 r3 r4 in
theorem check_5 (hm:8<x2):Calls Tryz.prog 11 #[.int .i64 5,.slice (some ⟨ab,0,none⟩) 3 5] w fun e w'=>e=.returned (.int .i64 1)∧Mod [] w w':=by
 have hbH:=Lib.hid hb;have hri:=Lib.hid fun w'=>rindex_ok x2 r2.1 w'
 clear hb;unfold fiveO at hbH;by_cases hbig:1048576<x2
 ·rw[show idxI x2= -1 by unfold idxI;rw[if_pos hbig]]at hri;clear hm hbig r2;go_enter Tryz.func11,Tryz.ntmps11;go_wp2_with fail;refine(rarity_5 _).mono ?_;rintro e w1 ⟨rfl,hm1⟩;have c2:=cells_of (hm1.at hbH.out (by simp));have hm1:=Lib.hid hm1;go_wp2_with fail;refine(hri.out _).mono ?_;rintro e w2 ⟨rfl,hm2⟩;have hm2:=Lib.hid (hm1.out.nil_then hm2);clear c2;go_wp2_with fail;go_ret;exact⟨rfl,hm2.out⟩
 ·rw[show idxI x2=x2 by unfold idxI;rw[if_neg hbig]]at hri;have hd1:decide (x2<0)=false:=by simp;exact r2.1
  have hd2:decide ((8:Int)<x2)=true:=by simp[hm]
  clear hm hbig r2;go_enter Tryz.func11,Tryz.ntmps11;go_wp2_with fail;refine(rarity_5 _).mono ?_;rintro e w1 ⟨rfl,hm1⟩;have c2:=cells_of (hm1.at hbH.out (by simp));have hm1:=Lib.hid hm1;go_wp2_with fail;refine(hri.out _).mono ?_;rintro e w2 ⟨rfl,hm2⟩;have c3:=cells_of ((hm1.out.nil_then hm2).at hbH.out (by simp));have hm2:=Lib.hid (hm1.out.nil_then hm2);clear c2;go_wp2_with fail;refine(hri.out _).mono ?_;rintro e w3 ⟨rfl,hm3⟩;have hm3:=Lib.hid (hm2.out.nil_then hm3);clear c3;go_wp2_with fail;go_ret;exact⟨rfl,hm3.out⟩
omit r0 r1 r2 r3 r4 in
theorem dobig_6 (hm:8<x2):Calls Tryz.prog 8 #[.pointer none,.int .i64 p,.slice none 0 0,.int .i64 6,.slice (some ⟨ab,0,none⟩) 4 5,.int .u64 0] w fun e w'=>e=.returned (.tuple #[.int .u64 0,.int .i64 1])∧Mod [] w w':=by
 have hbH:=Lib.hid hb;have hmd:decide ((8:Int)<x2)=true:=by simp[hm]
 clear hb hm;unfold fiveO at hbH;go_enter Tryz.func8,Tryz.ntmps8;go_wp2_with fail;refine(arity_6 _).mono ?_;rintro e w1 ⟨rfl,hm1⟩;have c2:=cells_of (hm1.at hbH.out (by simp));go_wp2_with fail;go_ret2;exact⟨rfl,hm1⟩
omit r0 r1 r3 r4 in
theorem check_6 (hm:8<x2):Calls Tryz.prog 11 #[.int .i64 6,.slice (some ⟨ab,0,none⟩) 4 5] w fun e w'=>e=.returned (.int .i64 1)∧Mod [] w w':=by
 have hbH:=Lib.hid hb;have hri:=Lib.hid fun w'=>rindex_ok x2 r2.1 w'
 clear hb;unfold fiveO at hbH;by_cases hbig:1048576<x2
 ·rw[show idxI x2= -1 by unfold idxI;rw[if_pos hbig]]at hri;clear hm hbig r2;go_enter Tryz.func11,Tryz.ntmps11;go_wp2_with fail;refine(rarity_6 _).mono ?_;rintro e w1 ⟨rfl,hm1⟩;have c2:=cells_of (hm1.at hbH.out (by simp));have hm1:=Lib.hid hm1;go_wp2_with fail;refine(hri.out _).mono ?_;rintro e w2 ⟨rfl,hm2⟩;have hm2:=Lib.hid (hm1.out.nil_then hm2);clear c2;go_wp2_with fail;go_ret;exact⟨rfl,hm2.out⟩
 ·rw[show idxI x2=x2 by unfold idxI;rw[if_neg hbig]]at hri;have hd1:decide (x2<0)=false:=by simp;exact r2.1
  have hd2:decide ((8:Int)<x2)=true:=by simp[hm]
  clear hm hbig r2;go_enter Tryz.func11,Tryz.ntmps11;go_wp2_with fail;refine(rarity_6 _).mono ?_;rintro e w1 ⟨rfl,hm1⟩;have c2:=cells_of (hm1.at hbH.out (by simp));have hm1:=Lib.hid hm1;go_wp2_with fail;refine(hri.out _).mono ?_;rintro e w2 ⟨rfl,hm2⟩;have c3:=cells_of ((hm1.out.nil_then hm2).at hbH.out (by simp));have hm2:=Lib.hid (hm1.out.nil_then hm2);clear c2;go_wp2_with fail;refine(hri.out _).mono ?_;rintro e w3 ⟨rfl,hm3⟩;have hm3:=Lib.hid (hm2.out.nil_then hm3);clear c3;go_wp2_with fail;go_ret;exact⟨rfl,hm3.out⟩
end
theorem wrap_j {call:Int} {j:Int} (h:call.tmod 11=j) (h0:0≤j) (h1:j<11):wrap64 (call.tmod 11)=j:=by rw[h];unfold wrap64;omega
theorem none_walk (p call x0 x1 x2 x3 x4:Int) (c0:0≤call) (_:call≤255) (r0:U64 x0) (r1:U64 x1) (r2:U64 x2) (r3:U64 x3) (r4:U64 x4) (W:World):
  Calls Tryz.prog 4 #[.int .i64 p,.int .u8 call,.agg #[.int .u64 x0,.int .u64 x1,.int .u64 x2,.int .u64 x3,.int .u64 x4]] W fun e w'=>e=.returned (.bool true)∧Mod [] W w':=by
 have hm0:=Lib.hid ((Mod.refl [] W).alloc (.cells #[.int .u64 x0,.int .u64 x1,.int .u64 x2,.int .u64 x3,.int .u64 x4] 46));have hbH:=Lib.hid (at_alloc W (.cells #[.int .u64 x0,.int .u64 x1,.int .u64 x2,.int .u64 x3,.int .u64 x4] 46));have hr:=Lib.hid (show U64 x0∧U64 x1∧U64 x2∧U64 x3∧U64 x4 from⟨r0,r1,r2,r3,r4⟩);have hj:=Int.tmod_lt_of_pos call (show(0:Int)<11 by omega);have hj0:=Int.tmod_nonneg 11 c0;have hcase:call.tmod 11=0∨call.tmod 11=1∨call.tmod 11=2∨call.tmod 11=3∨call.tmod 11=4∨call.tmod 11=5∨call.tmod 11=6∨call.tmod 11=7∨call.tmod 11=8∨call.tmod 11=9∨call.tmod 11=10:=by omega
 clear r0 r1 r2 r3 r4 c0 hj hj0;rcases hcase with hj|hj|hj|hj|hj|hj|hj|hj|hj|hj|hj
 ·have hw:=wrap_j hj (by omega) (by omega);clear hj;go_enter Tryz.func4,Tryz.ntmps4;go_wp2_with fail;refine(rarity_1 _).mono ?_;rintro e w1 ⟨rfl,hm1⟩;have hb1:=hm1.at hbH.out (by simp);have hm1:=Lib.hid (hm0.out.nil_then hm1);have hdo:=Lib.hid (donone_1 hb1 hr.out.1 hr.out.2.1 hr.out.2.2.1 hr.out.2.2.2.1 hr.out.2.2.2.2 p);clear hb1;go_wp2_with fail;refine hdo.out.mono ?_;rintro e w2 ⟨rfl,hm2⟩;have hm2:=Lib.hid (hm1.out.nil_then hm2);clear hdo hm1;go_wp2_with fail;refine(awake_ok _).mono ?_;rintro e w3 ⟨rfl,hm3⟩;have hm3:=Lib.hid (hm2.out.nil_then hm3);clear hm2;go_wp2_with fail;go_ret;exact⟨rfl,hm3.out⟩
 ·have hw:=wrap_j hj (by omega) (by omega);clear hj;go_enter Tryz.func4,Tryz.ntmps4;go_wp2_with fail;refine(rarity_2 _).mono ?_;rintro e w1 ⟨rfl,hm1⟩;have hb1:=hm1.at hbH.out (by simp);have hm1:=Lib.hid (hm0.out.nil_then hm1);have hdo:=Lib.hid (donone_2 hb1 hr.out.1 hr.out.2.1 hr.out.2.2.1 hr.out.2.2.2.1 hr.out.2.2.2.2 p);clear hb1;go_wp2_with fail;refine hdo.out.mono ?_;rintro e w2 ⟨rfl,hm2⟩;have hm2:=Lib.hid (hm1.out.nil_then hm2);clear hdo hm1;go_wp2_with fail;refine(awake_ok _).mono ?_;rintro e w3 ⟨rfl,hm3⟩;have hm3:=Lib.hid (hm2.out.nil_then hm3);clear hm2;go_wp2_with fail;go_ret;exact⟨rfl,hm3.out⟩
 ·have hw:=wrap_j hj (by omega) (by omega);clear hj;go_enter Tryz.func4,Tryz.ntmps4;go_wp2_with fail;refine(rarity_3 _).mono ?_;rintro e w1 ⟨rfl,hm1⟩;have hb1:=hm1.at hbH.out (by simp);have hm1:=Lib.hid (hm0.out.nil_then hm1);have hdo:=Lib.hid (donone_3 hb1 hr.out.1 hr.out.2.1 hr.out.2.2.1 hr.out.2.2.2.1 hr.out.2.2.2.2 p);clear hb1;go_wp2_with fail;refine hdo.out.mono ?_;rintro e w2 ⟨rfl,hm2⟩;have hm2:=Lib.hid (hm1.out.nil_then hm2);clear hdo hm1;go_wp2_with fail;refine(awake_ok _).mono ?_;rintro e w3 ⟨rfl,hm3⟩;have hm3:=Lib.hid (hm2.out.nil_then hm3);clear hm2;go_wp2_with fail;go_ret;exact⟨rfl,hm3.out⟩
 ·have hw:=wrap_j hj (by omega) (by omega);clear hj;go_enter Tryz.func4,Tryz.ntmps4;go_wp2_with fail;refine(rarity_4 _).mono ?_;rintro e w1 ⟨rfl,hm1⟩;have hb1:=hm1.at hbH.out (by simp);have hm1:=Lib.hid (hm0.out.nil_then hm1);have hdo:=Lib.hid (donone_4 hb1 hr.out.1 hr.out.2.1 hr.out.2.2.1 hr.out.2.2.2.1 hr.out.2.2.2.2 p);clear hb1;go_wp2_with fail;refine hdo.out.mono ?_;rintro e w2 ⟨rfl,hm2⟩;have hm2:=Lib.hid (hm1.out.nil_then hm2);clear hdo hm1;go_wp2_with fail;refine(awake_ok _).mono ?_;rintro e w3 ⟨rfl,hm3⟩;have hm3:=Lib.hid (hm2.out.nil_then hm3);clear hm2;go_wp2_with fail;go_ret;exact⟨rfl,hm3.out⟩
 ·have hw:=wrap_j hj (by omega) (by omega);clear hj;by_cases hm:x2≤8
  ·have hmH:=Lib.hid hm;clear hm;go_enter Tryz.func4,Tryz.ntmps4;go_wp2_with fail;refine(rarity_5 _).mono ?_;rintro e w1 ⟨rfl,hm1⟩;have hb1:=hm1.at hbH.out (by simp);have hm1:=Lib.hid (hm0.out.nil_then hm1);have hdo:=Lib.hid (donone_5 hb1 hr.out.1 hr.out.2.1 hr.out.2.2.1 hr.out.2.2.2.1 hr.out.2.2.2.2 p hmH.out);clear hb1 hmH;go_wp2_with fail;refine hdo.out.mono ?_;rintro e w2 ⟨rfl,hm2⟩;have hm2:=Lib.hid (hm1.out.nil_then hm2);clear hdo hm1;go_wp2_with fail;refine(awake_ok _).mono ?_;rintro e w3 ⟨rfl,hm3⟩;have hm3:=Lib.hid (hm2.out.nil_then hm3);clear hm2;go_wp2_with fail;go_ret;exact⟨rfl,hm3.out⟩
  ·have hmH:=Lib.hid (show 8<x2 by omega);clear hm;go_enter Tryz.func4,Tryz.ntmps4;go_wp2_with fail;refine(rarity_5 _).mono ?_;rintro e w1 ⟨rfl,hm1⟩;have hb1:=hm1.at hbH.out (by simp);have hm1:=Lib.hid (hm0.out.nil_then hm1);have hdo:=Lib.hid (dobig_5 hb1 p hmH.out);have hb1:=Lib.hid hb1;go_wp2_with fail;refine hdo.out.mono ?_;rintro e w2 ⟨rfl,hm2⟩;have hb2:=Lib.hid (hm2.at hb1.out (by simp));have hm2:=Lib.hid (hm1.out.nil_then hm2);clear hdo hm1 hb1;go_wp2_with fail;refine(awake_ok _).mono ?_;rintro e w3 ⟨rfl,hm3⟩;have hck:=Lib.hid (check_5 (hm3.at hb2.out (by simp)) hr.out.2.2.1 hmH.out);have hm3:=Lib.hid (hm2.out.nil_then hm3);clear hm2 hb2 hmH;go_wp2_with fail;refine hck.out.mono ?_;rintro e w4 ⟨rfl,hm4⟩;have hm4:=Lib.hid (hm3.out.nil_then hm4);clear hck hm3;go_wp2_with fail;go_ret;exact⟨rfl,hm4.out⟩
 ·have hw:=wrap_j hj (by omega) (by omega);clear hj;by_cases hm:x2≤8
  ·have hmH:=Lib.hid hm;clear hm;go_enter Tryz.func4,Tryz.ntmps4;go_wp2_with fail;refine(rarity_6 _).mono ?_;rintro e w1 ⟨rfl,hm1⟩;have hb1:=hm1.at hbH.out (by simp);have hm1:=Lib.hid (hm0.out.nil_then hm1);have hdo:=Lib.hid (donone_6 hb1 hr.out.1 hr.out.2.1 hr.out.2.2.1 hr.out.2.2.2.1 hr.out.2.2.2.2 p hmH.out);clear hb1 hmH;go_wp2_with fail;refine hdo.out.mono ?_;rintro e w2 ⟨rfl,hm2⟩;have hm2:=Lib.hid (hm1.out.nil_then hm2);clear hdo hm1;go_wp2_with fail;refine(awake_ok _).mono ?_;rintro e w3 ⟨rfl,hm3⟩;have hm3:=Lib.hid (hm2.out.nil_then hm3);clear hm2;go_wp2_with fail;go_ret;exact⟨rfl,hm3.out⟩
  ·have hmH:=Lib.hid (show 8<x2 by omega);clear hm;go_enter Tryz.func4,Tryz.ntmps4;go_wp2_with fail;refine(rarity_6 _).mono ?_;rintro e w1 ⟨rfl,hm1⟩;have hb1:=hm1.at hbH.out (by simp);have hm1:=Lib.hid (hm0.out.nil_then hm1);have hdo:=Lib.hid (dobig_6 hb1 p hmH.out);have hb1:=Lib.hid hb1;go_wp2_with fail;refine hdo.out.mono ?_;rintro e w2 ⟨rfl,hm2⟩;have hb2:=Lib.hid (hm2.at hb1.out (by simp));have hm2:=Lib.hid (hm1.out.nil_then hm2);clear hdo hm1 hb1;go_wp2_with fail;refine(awake_ok _).mono ?_;rintro e w3 ⟨rfl,hm3⟩;have hck:=Lib.hid (check_6 (hm3.at hb2.out (by simp)) hr.out.2.2.1 hmH.out);have hm3:=Lib.hid (hm2.out.nil_then hm3);clear hm2 hb2 hmH;go_wp2_with fail;refine hck.out.mono ?_;rintro e w4 ⟨rfl,hm4⟩;have hm4:=Lib.hid (hm3.out.nil_then hm4);clear hck hm3;go_wp2_with fail;go_ret;exact⟨rfl,hm4.out⟩
 ·have hw:=wrap_j hj (by omega) (by omega);clear hj;go_enter Tryz.func4,Tryz.ntmps4;go_wp2_with fail;refine(rarity_7 _).mono ?_;rintro e w1 ⟨rfl,hm1⟩;have hb1:=hm1.at hbH.out (by simp);have hm1:=Lib.hid (hm0.out.nil_then hm1);have hdo:=Lib.hid (donone_7 hb1 hr.out.1 hr.out.2.1 hr.out.2.2.1 hr.out.2.2.2.1 hr.out.2.2.2.2 p);clear hb1;go_wp2_with fail;refine hdo.out.mono ?_;rintro e w2 ⟨rfl,hm2⟩;have hm2:=Lib.hid (hm1.out.nil_then hm2);clear hdo hm1;go_wp2_with fail;refine(awake_ok _).mono ?_;rintro e w3 ⟨rfl,hm3⟩;have hm3:=Lib.hid (hm2.out.nil_then hm3);clear hm2;go_wp2_with fail;go_ret;exact⟨rfl,hm3.out⟩
 ·have hw:=wrap_j hj (by omega) (by omega);clear hj;go_enter Tryz.func4,Tryz.ntmps4;go_wp2_with fail;refine(rarity_8 _).mono ?_;rintro e w1 ⟨rfl,hm1⟩;have hb1:=hm1.at hbH.out (by simp);have hm1:=Lib.hid (hm0.out.nil_then hm1);have hdo:=Lib.hid (donone_8 hb1 hr.out.1 hr.out.2.1 hr.out.2.2.1 hr.out.2.2.2.1 hr.out.2.2.2.2 p);clear hb1;go_wp2_with fail;refine hdo.out.mono ?_;rintro e w2 ⟨rfl,hm2⟩;have hm2:=Lib.hid (hm1.out.nil_then hm2);clear hdo hm1;go_wp2_with fail;refine(awake_ok _).mono ?_;rintro e w3 ⟨rfl,hm3⟩;have hm3:=Lib.hid (hm2.out.nil_then hm3);clear hm2;go_wp2_with fail;go_ret;exact⟨rfl,hm3.out⟩
 ·have hw:=wrap_j hj (by omega) (by omega);clear hj;go_enter Tryz.func4,Tryz.ntmps4;go_wp2_with fail;refine(rarity_9 _).mono ?_;rintro e w1 ⟨rfl,hm1⟩;have hb1:=hm1.at hbH.out (by simp);have hm1:=Lib.hid (hm0.out.nil_then hm1);have hdo:=Lib.hid (donone_9 hb1 hr.out.1 hr.out.2.1 hr.out.2.2.1 hr.out.2.2.2.1 hr.out.2.2.2.2 p);clear hb1;go_wp2_with fail;refine hdo.out.mono ?_;rintro e w2 ⟨rfl,hm2⟩;have hm2:=Lib.hid (hm1.out.nil_then hm2);clear hdo hm1;go_wp2_with fail;refine(awake_ok _).mono ?_;rintro e w3 ⟨rfl,hm3⟩;have hm3:=Lib.hid (hm2.out.nil_then hm3);clear hm2;go_wp2_with fail;go_ret;exact⟨rfl,hm3.out⟩
 ·have hw:=wrap_j hj (by omega) (by omega);clear hj;go_enter Tryz.func4,Tryz.ntmps4;go_wp2_with fail;refine(rarity_10 _).mono ?_;rintro e w1 ⟨rfl,hm1⟩;have hb1:=hm1.at hbH.out (by simp);have hm1:=Lib.hid (hm0.out.nil_then hm1);have hdo:=Lib.hid (donone_10 hb1 hr.out.1 hr.out.2.1 hr.out.2.2.1 hr.out.2.2.2.1 hr.out.2.2.2.2 p);clear hb1;go_wp2_with fail;refine hdo.out.mono ?_;rintro e w2 ⟨rfl,hm2⟩;have hm2:=Lib.hid (hm1.out.nil_then hm2);clear hdo hm1;go_wp2_with fail;refine(awake_ok _).mono ?_;rintro e w3 ⟨rfl,hm3⟩;have hm3:=Lib.hid (hm2.out.nil_then hm3);clear hm2;go_wp2_with fail;go_ret;exact⟨rfl,hm3.out⟩
 ·have hw:=wrap_j hj (by omega) (by omega);clear hj;go_enter Tryz.func4,Tryz.ntmps4;go_wp2_with fail;refine(rarity_11 _).mono ?_;rintro e w1 ⟨rfl,hm1⟩;have hb1:=hm1.at hbH.out (by simp);have hm1:=Lib.hid (hm0.out.nil_then hm1);have hdo:=Lib.hid (donone_11 hb1 hr.out.1 hr.out.2.1 hr.out.2.2.1 hr.out.2.2.2.1 hr.out.2.2.2.2 p);clear hb1;go_wp2_with fail;refine hdo.out.mono ?_;rintro e w2 ⟨rfl,hm2⟩;have hm2:=Lib.hid (hm1.out.nil_then hm2);clear hdo hm1;go_wp2_with fail;refine(awake_ok _).mono ?_;rintro e w3 ⟨rfl,hm3⟩;have hm3:=Lib.hid (hm2.out.nil_then hm3);clear hm2;go_wp2_with fail;go_ret;exact⟨rfl,hm3.out⟩
end Go.Proofs.YtgfdeiijblakfaaGreat
