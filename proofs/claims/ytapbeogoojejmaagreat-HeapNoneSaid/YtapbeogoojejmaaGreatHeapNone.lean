/- HeapNone: the walk of the law. -/
import Derived.Test.YtapbeogoojejmaaGreatHnl
import Derived.Test.YtapbeogoojejmaaGreatC02
import Derived.Test.YtapbeogoojejmaaGreatC03
import Derived.Test.YtapbeogoojejmaaGreatC04
import Derived.Test.YtapbeogoojejmaaGreatC06
import Derived.Test.YtapbeogoojejmaaGreatC07
import Derived.Test.YtapbeogoojejmaaGreatC08
import Derived.Test.YtapbeogoojejmaaGreatC09
import Derived.Test.YtapbeogoojejmaaGreatC10
import Derived.Test.YtapbeogoojejmaaGreatC11
import Derived.Test.YtapbeogoojejmaaGreatC12
import Derived.Test.YtapbeogoojejmaaGreatC14
import Derived.Test.YtapbeogoojejmaaGreatC16
import Derived.Test.YtapbeogoojejmaaGreatC17
import Derived.Test.YtapbeogoojejmaaGreatC18
import Derived.Test.YtapbeogoojejmaaGreatC19
import Derived.Test.YtapbeogoojejmaaGreatC20
import Derived.Test.YtapbeogoojejmaaGreatC25
import Derived.Test.YtapbeogoojejmaaGreatC26
import Derived.Test.YtapbeogoojejmaaGreatC29
import Derived.Test.YtapbeogoojejmaaGreatC30
import Derived.Test.YtapbeogoojejmaaGreatC40
import Derived.Test.YtapbeogoojejmaaGreatC43
import Derived.Test.YtapbeogoojejmaaGreatCS
set_option maxHeartbeats 8000000
set_option maxRecDepth 100000
namespace Go.Proofs.YtapbeogoojejmaaGreat
open Go Go.RowKit Go.Stg
theorem neq_use (w:World):(binOp .neq 61 (.agg #[.int .i64 0,.int .i64 0,.int .i64 0,.int .i64 0,.int .i64 0]) (.agg #[.int .i64 0,.int .i64 0,.int .i64 0,.int .i64 0,.int .i64 0])).run Tryz.prog w=.ok (.bool false) w:=by
 have u3:=Tryz.underlying3;have a3:=Tryz.isAgg3;have z3:=Tryz.sizeOf3;have h:(Op.equalIn Op.maxDepth 61 (.agg #[.int .i64 0,.int .i64 0,.int .i64 0,.int .i64 0,.int .i64 0]) (.agg #[.int .i64 0,.int .i64 0,.int .i64 0,.int .i64 0,.int .i64 0])).run Tryz.prog w=.ok true w:=by
  rw[show Op.maxDepth=9999+1 from rfl,run_equalIn_struct w 9999 61 _ _ Tryz.underlying61 (by kernel_rfl)];go_simp
 simp[binOp,Op.equal,h,go_sem]
theorem none_walk (p r n wd:Int) (v:Value) (xs:List Int) (_:0≤wd) (_:wd≤18446744073709551615) (W:World) (hx:Ty.NumsAt W v xs):
  Calls Tryz.prog 3 #[.int .i64 p,.int .i64 r,.int .i64 n,.int .u64 wd,v] W fun e w'=>e=.returned (.bool true)∧Mod [] W w':=by
 have hO:=Lib.hid (Ty.of_ok v xs 30 (by omega) W hx);clear hx;go_enter Tryz.func3,Tryz.ntmps3;go_wp2_with fail;refine hO.out.mono ?_;rintro e w2 ⟨b,rfl,hm2,hT2,hb2⟩;clear hO;go_wp2_with fail;refine(Ty.type_next b 0 _ _ w2 hT2 (by omega)).mono ?_;rintro e w3 ⟨len,g,cap,fs,rfl,hF,hM,hcap,hm3,hg, -, -⟩;have hm3:=hm2.then hm3 (fun z hz=>.inr (by rw[List.mem_singleton.1 hz];have:=hm2.size;omega));have herr:=Lib.hid (Ty.made_err hM);obtain⟨l1,l2,l3,l4⟩:=Ty.made_bounds hM;have hlen:=Lib.hid (And.intro l1 l2);have hS3:=Lib.hid ((((Scene.empty w3).alloc (.cells #[.int .i64 len,.slice (some ⟨g,0,none⟩) fs.length cap] 27)).alloc (.cells #[.pointer none,.pointer none,.pointer none,.pointer none,.pointer none,.pointer none,.map none] 40)).alloc (.cells #[.pointer none,.pointer (some ⟨w3.heap.size+1,0,none⟩)] 31));have hm3H:=Lib.hid hm3;have hFH:=Lib.hid hF;clear hm2 hT2 hM hb2 hm3 hF l1 l2 l3 l4 hg hcap;go_wp2_with fail;have hS4:=hS3.out;rw[show(w3.alloc (.cells #[.int .i64 len,.slice (some ⟨g,0,none⟩) fs.length cap] 27)).heap.size=w3.heap.size+1 by simp]at hS4;rw[show((w3.alloc (.cells #[.int .i64 len,.slice (some ⟨g,0,none⟩) fs.length cap] 27)).alloc (.cells #[.pointer none,.pointer none,.pointer none,.pointer none,.pointer none,.pointer none,.map none] 40)).heap.size=w3.heap.size+1+1 by simp]at hS4;have hq:RowKit.Hid (∀(W':World) (k:Nat),k<2→Mod [] (((w3.alloc (.cells #[.int .i64 len,.slice (some ⟨g,0,none⟩) fs.length cap] 27)).alloc (.cells #[.pointer none,.pointer none,.pointer none,.pointer none,.pointer none,.pointer none,.map none] 40)).alloc (.cells #[.pointer none,.pointer (some ⟨w3.heap.size+1,0,none⟩)] 31)) W'→∃q,W'.cell? ⟨w3.heap.size+1+1,k,none⟩=some (.pointer q)∧NulH W' q):=by
  refine Lib.hid fun W' k hk hm=> ?_
  have h0:=cells_of (hm.at (hS4.block 0 rfl) (by simp));rcases Nat.lt_or_ge k 1 with h|h
  ·obtain rfl:k=0:=by omega
   exact⟨none,h0 0,.inl rfl⟩
  ·obtain rfl:k=1:=by omega
   exact⟨_,h0 1,.inr ⟨_,rfl,hm.at (hS4.block 1 rfl) (by simp)⟩⟩
 have ht:=Lib.hid (hS4.block 2 rfl);have hF4:=Lib.hid (hFH.out.mod hS4.mod);have hm4:=Lib.hid (hm3H.out.nil_then hS4.mod);clear hS3 hS4 hFH hm3H;generalize(((w3.alloc (.cells #[.int .i64 len,.slice (some ⟨g,0,none⟩) fs.length cap] 27)).alloc (.cells #[.pointer none,.pointer none,.pointer none,.pointer none,.pointer none,.pointer none,.map none] 40)).alloc (.cells #[.pointer none,.pointer (some ⟨w3.heap.size+1,0,none⟩)] 31))=W4 at*;go_loopw [37] (fun i wr=>∃k:Nat,k≤2∧i=.int .i64 k∧Mod [] W4 wr) (fun i _=>2-(intOf i).toNat)
 case atStart=>exact⟨0,by omega,rfl,Mod.refl _ _⟩
 case round=>
  obtain⟨k,hk,rfl,hm⟩:=hrel;have hmH:=Lib.hid hm;by_cases hlt:k<2
  ·obtain⟨q,hc,hN⟩:=hq.out wr k hlt hm;have hN:=Lib.hid fun w' hm=>NulH.mod (w':=w') hN hm
   have ct:=cells_of (hm.at ht.out (by simp));have hF5:=Lib.hid (hF4.out.mod hm);clear hm;go_wp2_with fail;refine(nulh_define (hN.out _ (Mod.refl _ _)) len _ fs hF5.out (by have:=hlen.out;omega) (by have:=hlen.out;omega) herr.out).mono ?_;rintro e w5 ⟨rfl,hm5⟩;rw[if_pos rfl];have hmk:=Lib.hid hm5;clear hc ct hm5;have hcase:RowKit.Hid ((decide (p<1)=true∧(if p<1∨64<p then(15:Int)else 28)=15)∨((decide (p<1)=false∧decide (64<p)=true)∧(if p<1∨64<p then(15:Int)else 28)=15)∨((decide (p<1)=false∧decide (64<p)=false)∧(if p<1∨64<p then(15:Int)else 28)=28)):=by
    refine Lib.hid ?_;by_cases h1:p<1
    ·exact .inl ⟨by simp[h1],if_pos (.inl h1)⟩
    ·by_cases h2:64<p
     ·exact .inr (.inl ⟨⟨by simp[h1],by simp[h2]⟩,if_pos (.inr h2)⟩)
     ·exact .inr (.inr ⟨⟨by simp[h1],by simp[h2]⟩,if_neg (by omega)⟩)
   go_wp2_with fail;refine(nulh_define (hN.out _ hmk.out) 0 (.slice none 0 0) [] (.inl ⟨rfl,rfl⟩) (by omega) (by omega) (r:=3) (by decide)).mono ?_;rintro e w6 ⟨rfl,hm6⟩;rw[if_neg (by omega)];have hmk2:=Lib.hid (hmk.out.nil_then hm6);clear hmk hm6;have hmk:=hmk2;clear hmk2;go_wp2_with fail;refine(nulh_alloc (hN.out _ hmk.out) p n wd).mono ?_;rintro e w6 ⟨rfl,hm6⟩;have hmk2:=Lib.hid (hmk.out.nil_then hm6);clear hmk hm6;have hmk:=hmk2;clear hmk2;go_wp2_with fail;refine(nulh_get (hN.out _ hmk.out) p wd n).mono ?_;rintro e w6 ⟨rfl,hm6⟩;have hmk2:=Lib.hid (hmk.out.nil_then hm6);clear hmk hm6;have hmk:=hmk2;clear hmk2;go_wp2_with fail;refine(nulh_load (hN.out _ hmk.out) p wd n n).mono ?_;rintro e w6 ⟨rfl,hm6⟩;have hmk2:=Lib.hid (hmk.out.nil_then hm6);clear hmk hm6;have hmk:=hmk2;clear hmk2;go_wp2_with fail;refine(nulh_end (hN.out _ hmk.out) p).mono ?_;rintro e w6 ⟨rfl,hm6⟩;have hmk2:=Lib.hid (hmk.out.nil_then hm6);clear hmk hm6;have hmk:=hmk2;clear hmk2;go_wp2_with fail;rcases hcase.out with⟨d1,hs⟩|⟨⟨d1,d2⟩,hs⟩|⟨⟨d1,d2⟩,hs⟩
   all_goals
    have hs:=Lib.hid hs;clear hcase;refine(nulh_start (hN.out _ hmk.out) p).mono ?_;rintro e w6 ⟨rfl,hm6⟩;rw[hs.out];have hmk2:=Lib.hid (hmk.out.nil_then hm6);clear hmk hm6;have hmk:=hmk2;clear hmk2;go_wp2_with fail;refine(nulh_alive (hN.out _ hmk.out) p).mono ?_;rintro e w6 ⟨rfl,hm6⟩;have hmk2:=Lib.hid (hmk.out.nil_then hm6);clear hmk hm6;have hmk:=hmk2;clear hmk2;go_wp2_with fail;refine(nulh_free (hN.out _ hmk.out) p wd).mono ?_;rintro e w6 ⟨rfl,hm6⟩;have hmk2:=Lib.hid (hmk.out.nil_then hm6);clear hmk hm6;have hmk:=hmk2;clear hmk2;go_wp2_with fail;refine(nulh_set (hN.out _ hmk.out) p wd n 1).mono ?_;rintro e w6 ⟨rfl,hm6⟩;have hmk2:=Lib.hid (hmk.out.nil_then hm6);clear hmk hm6;have hmk:=hmk2;clear hmk2;go_wp2_with fail;refine(nulh_store (hN.out _ hmk.out) p wd n).mono ?_;rintro e w6 ⟨rfl,hm6⟩;have hmk2:=Lib.hid (hmk.out.nil_then hm6);clear hmk hm6;have hmk:=hmk2;clear hmk2;go_wp2_with fail;refine(nulh_copy (hN.out _ hmk.out) p wd n wd n n).mono ?_;rintro e w6 ⟨rfl,hm6⟩;have hmk2:=Lib.hid (hmk.out.nil_then hm6);clear hmk hm6;have hmk:=hmk2;clear hmk2;go_wp2_with fail;refine(nulh_transfer (hN.out _ hmk.out) p wd r).mono ?_;rintro e w6 ⟨rfl,hm6⟩;have hmk2:=Lib.hid (hmk.out.nil_then hm6);clear hmk hm6;have hmk:=hmk2;clear hmk2;go_wp2_with fail;refine(nulh_share (hN.out _ hmk.out) p wd r).mono ?_;rintro e w6 ⟨rfl,hm6⟩;have hmk2:=Lib.hid (hmk.out.nil_then hm6);clear hmk hm6;have hmk:=hmk2;clear hmk2;go_wp2_with fail;refine(nulh_lend (hN.out _ hmk.out) p wd r).mono ?_;rintro e w6 ⟨rfl,hm6⟩;have hmk2:=Lib.hid (hmk.out.nil_then hm6);clear hmk hm6;have hmk:=hmk2;clear hmk2;go_wp2_with fail;refine(nulh_release (hN.out _ hmk.out) p wd).mono ?_;rintro e w6 ⟨rfl,hm6⟩;have hmk2:=Lib.hid (hmk.out.nil_then hm6);clear hmk hm6;have hmk:=hmk2;clear hmk2;go_wp2_with fail;refine(nulh_usage (hN.out _ hmk.out) p).mono ?_;rintro e w6 ⟨rfl,hm6⟩;have hu:=neq_use;have hmk2:=Lib.hid (hmk.out.nil_then hm6);clear hmk hm6;have hmk:=hmk2;clear hmk2;go_wp2_with fail;refine(law_objects (hN.out _ hmk.out)).mono ?_;rintro e w6 ⟨rfl,hm6⟩;clear hu;have hmk2:=Lib.hid (hmk.out.nil_then hm6);clear hmk hm6;have hmk:=hmk2;clear hmk2;go_wp2_with fail;refine(nulh_freelist (hN.out _ hmk.out)).mono ?_;rintro e w6 ⟨rfl,hm6⟩;have hmk2:=Lib.hid (hmk.out.nil_then hm6);clear hmk hm6;have hmk:=hmk2;clear hmk2;go_wp2_with fail;refine(nulh_pool (hN.out _ hmk.out)).mono ?_;rintro e w6 ⟨rfl,hm6⟩;have hmk2:=Lib.hid (hmk.out.nil_then hm6);clear hmk hm6;have hmk:=hmk2;clear hmk2;go_wp2_with fail;refine(nulh_retired (hN.out _ hmk.out)).mono ?_;rintro e w6 ⟨rfl,hm6⟩;have hmk2:=Lib.hid (hmk.out.nil_then hm6);clear hmk hm6;have hmk:=hmk2;clear hmk2;go_wp2_with fail;refine(nulh_log (hN.out _ hmk.out)).mono ?_;rintro e w6 ⟨rfl,hm6⟩;have hmk2:=Lib.hid (hmk.out.nil_then hm6);clear hmk hm6;have hmk:=hmk2;clear hmk2;go_wp2_with fail;refine(nulh_digest (hN.out _ hmk.out)).mono ?_;rintro e w6 ⟨rfl,hm6⟩;have hmk2:=Lib.hid (hmk.out.nil_then hm6);clear hmk hm6;have hmk:=hmk2;clear hmk2;go_wp2_with fail;refine(rsum_nil _).mono ?_;rintro e w6 ⟨rfl,hm6⟩;have hmk2:=Lib.hid (hmk.out.nil_then hm6);clear hmk hm6;have hmk:=hmk2;clear hmk2;go_wp2_with fail;refine(law_events (hN.out _ hmk.out)).mono ?_;rintro e w6 ⟨rfl,hm6⟩;have hmk2:=Lib.hid (hmk.out.nil_then hm6);clear hmk hm6;have hmk:=hmk2;clear hmk2;go_wp2_with fail;go_roundw
    case rel=>exact⟨k+1,by omega,by go_num,hmH.out.nil_then hmk.out⟩
    case measure=>simp[intOf];omega
  ·obtain rfl:k=2:=by omega
   clear hm hq;go_wp2_with fail;refine(awake_ok _).mono ?_;rintro e w7 ⟨rfl,hm7⟩;have hm8:=Lib.hid (hm4.out.nil_then (hmH.out.nil_then hm7));clear hm7;go_wp2_with fail;go_ret;exact⟨rfl,hm8.out⟩
end Go.Proofs.YtapbeogoojejmaaGreat
