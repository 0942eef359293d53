/- Joined contracts. No conditions. -/
import Derived.Test.YteidpgdfocjdbaaGreatCS
import Derived.Test.YteidpgdfocjdbaaGreatC34
set_option maxHeartbeats 8000000
set_option maxRecDepth 20000
namespace Go.Proofs.YteidpgdfocjdbaaGreat
open Go Go.RowKit Go.Stg
theorem overlay_snoc {l b:List Int} {p:Nat} (x:Int) (h:p+b.length+1≤l.length):overlay (overlay l p b) (p+b.length) [x]=overlay l p (b++[x]):=by
 have h1:=overlay_len (l:=l) (b:=b) (off:=p) (by omega);have h2:=overlay_len (l:=overlay l p b) (b:=[x]) (off:=p+b.length) (by rw[h1];simpa using h);have h3:=overlay_len (l:=l) (b:=b++[x]) (off:=p) (by simp;omega);refine ext_getD (by rw[h2,h1,h3]) fun i hi=> ?_
 rw[overlay_get (by rw[h1];simpa using h),overlay_get (by omega),overlay_get (by simp;omega)];simp only[List.length_append,List.length_cons,List.length_nil,Nat.zero_add,List.getD_eq_getElem?_getD];by_cases c1:p≤i∧i<p+b.length
 ·rw[if_neg (by omega),if_pos c1,if_pos (by omega),List.getElem?_append_left (by omega)]
 ·by_cases c2:i=p+b.length
  ·subst c2;rw[if_pos (by omega),if_pos (by omega),List.getElem?_append_right (by omega),Nat.add_sub_cancel_left,Nat.sub_self,Nat.sub_self]
  ·rw[if_neg (by omega),if_neg c1,if_neg (by omega)]
def fitN (v:Int) (n:Nat):Bool:=decide (8≤n)||decide (v<256^n)
def storeN (B:List Int) (p n:Nat) (v:Int):List Int:=if fitN v n=true then overlay B p (leB v n)else B
def storeE (n:Nat) (v:Int):Int:=if fitN v n=true then 0 else 9
theorem fit_div {v:Int} (v0:0≤v) {n:Nat} (h8:n<8):fitN v n=decide (v/256^n=0):=by
 unfold fitN;have hp:(0:Int)<256^n:=Int.pow_pos (by omega);rw[show decide (8≤n)=false by simp;omega,Bool.false_or];by_cases c:v<256^n
 ·rw[Int.ediv_eq_zero_of_lt v0 c];simp[c]
 ·have:=(Int.le_ediv_iff_mul_le hp (a:=1) (b:=v)).2 (by omega);have e:¬v/256^n=0:=by omega
  simp[c,e]
theorem arstore_no {ar:Nat} {size:Int} {used:List Ext} {B:List Int} {w:World} {f:List Nat} (h:(arC ar size used B).on w f) {o l:Nat} (hx:((o:Int),(l:Int))∈used) (off n:Nat) (hn:off+n≤l) (hw:wOk n) (v:Int) (v0:0≤v) (_:v≤18446744073709551615) (hfb:fitN v n=false):
  Calls Tryz.prog 51 #[.pointer (some ⟨ar,0,none⟩),.agg #[.int .i64 o,.int .i64 l],.int .i64 off,.int .i64 n,.int .u64 v] w (Takes (arC ar size used B) (.int .i64 9) w f):=by
 obtain⟨hk,⟨hl0,hol,hB⟩,hhas,ab,g,cap,⟨hc1,hc2⟩,hH⟩:=arC.view h hx;have hn8:=hw.pos;have hS:=Scene.start hH;have hS0:=Lib.hid (hS.alloc (.cells #[.int .i64 o,.int .i64 l] 56));have hm0:=Lib.hid ((Mod.refl [] w).alloc (.cells #[.int .i64 o,.int .i64 l] 56));have hfd:=Lib.hid fun w' (h':Mod [] w w')=>arfield_ok (h'.at (hS.block 0 rfl) (by simp)) (Comp.keep (alC ab (frOf size used) used) (hS.part 1 rfl).choose_spec.1 h' (by simp)) o l hhas hol hc1 hB hc2 off n hn hw
 have hkH:=Lib.hid hk;have hwH:=Lib.hid hw;have hcH:=Lib.hid fun(h8:n<8)=>(fit_div v0 h8).symm.trans hfb
 have hfH:=Lib.hid hfb;clear h hH hS hhas hk hx hw hfb;go_enter Tryz.func51,Tryz.ntmps51;go_wp2_with fail;refine(hfd.out _ hm0.out).mono ?_;rintro e w1 ⟨rfl,hm1⟩;have hS1:=Lib.hid (hS0.out.then hm1);have hmH:=Lib.hid (hm0.out.nil_then hm1);clear hm1 hm0 hfd hS0;rcases hwH.out with rfl|rfl|rfl|rfl
 ·have hz:¬(v/256=0):=by
   have:=hcH.out (by omega);simp only[Int.reducePow]at this;simpa using this
  go_wp2_with fail;go_ret;obtain⟨f6,p1,p2,p3⟩:=(hS1.out.erase 0).done;exact⟨f6,rfl,⟨hkH.out,ab,_,p1⟩,p2,p3⟩
 ·have hz:¬(v/65536=0):=by
   have:=hcH.out (by omega);simp only[Int.reducePow]at this;simpa using this
  go_wp2_with fail;go_ret;obtain⟨f6,p1,p2,p3⟩:=(hS1.out.erase 0).done;exact⟨f6,rfl,⟨hkH.out,ab,_,p1⟩,p2,p3⟩
 ·have hz:¬(v/4294967296=0):=by
   have:=hcH.out (by omega);simp only[Int.reducePow]at this;simpa using this
  go_wp2_with fail;go_ret;obtain⟨f6,p1,p2,p3⟩:=(hS1.out.erase 0).done;exact⟨f6,rfl,⟨hkH.out,ab,_,p1⟩,p2,p3⟩
 ·exact absurd hfH.out (by simp[fitN])
theorem arstore_yes {ar:Nat} {size:Int} {used:List Ext} {B:List Int} {w:World} {f:List Nat} (h:(arC ar size used B).on w f) {o l:Nat} (hx:((o:Int),(l:Int))∈used) (off n:Nat) (hn:off+n≤l) (hw:wOk n) (v:Int) (v0:0≤v) (v1:v≤18446744073709551615) (hfb:fitN v n=true):
  Calls Tryz.prog 51 #[.pointer (some ⟨ar,0,none⟩),.agg #[.int .i64 o,.int .i64 l],.int .i64 off,.int .i64 n,.int .u64 v] w (Takes (arC ar size used (overlay B (o+off) (leB v n))) (.int .i64 0) w f):=by
 obtain⟨hk,⟨hl0,hol,hB⟩,hhas,ab,g,cap,⟨hc1,hc2⟩,hH⟩:=arC.view h hx;have hn8:=hw.pos;have hS:=Scene.start hH;have hS0:=Lib.hid (hS.alloc (.cells #[.int .i64 o,.int .i64 l] 56));have hm0:=Lib.hid ((Mod.refl [] w).alloc (.cells #[.int .i64 o,.int .i64 l] 56));have hfd:=Lib.hid fun w' (h':Mod [] w w')=>arfield_ok (h'.at (hS.block 0 rfl) (by simp)) (Comp.keep (alC ab (frOf size used) used) (hS.part 1 rfl).choose_spec.1 h' (by simp)) o l hhas hol hc1 hB hc2 off n hn hw
 have hkH:=Lib.hid hk;have hwH:=Lib.hid hw;have hcH:=Lib.hid fun(h8:n<8)=>(fit_div v0 h8).symm.trans hfb
 have hfH:=Lib.hid hfb;clear h hH hS hhas hk hx hw hfb;go_enter Tryz.func51,Tryz.ntmps51;go_wp2_with fail;refine(hfd.out _ hm0.out).mono ?_;rintro e w1 ⟨rfl,hm1⟩;have hS1:=Lib.hid (hS0.out.then hm1);have hmH:=Lib.hid (hm0.out.nil_then hm1);clear hm1 hm0 hfd hS0;rcases hwH.out with rfl|rfl|rfl|rfl
 ·have hz:v/256=0:=by
   have:=hcH.out (by omega);simp only[Int.reducePow]at this;simpa using this
  go_wp2_with fail;clear hz;go_loopw [36] (fun i wr=>∃k:Nat,k≤1∧i=.int .i64 k∧Scene f w [blockC w.heap.size (.cells #[.int .i64 o,.int .i64 l] 56 (0,0)),blockC ar (.cells #[.pointer (some ⟨ab,0,none⟩),.slice (some ⟨g,0,none⟩) B.length cap] 147 (0,0)),alC ab (frOf size used) used,rowC (.slice (some ⟨g,0,none⟩) B.length cap) B.length 5 1 (bvals (overlay B (o+off) (leB v k)))] wr) (fun i _=>1-(intOf i).toNat)
  case atStart=>exact⟨0,by omega,rfl,by rw[leB,overlay_nil];exact hS1.out⟩
  case round=>
   obtain⟨k,hk,rfl,hSk⟩:=hrel;have hSk:=Lib.hid hSk;by_cases hlt:k<1
   ·have hcase:k=0:=by omega
    subst hcase;have hth:=bytes_there (hSk.out.row 3 rfl) (j:=o+off+0) (by omega);obtain⟨old,hold⟩:=Option.isSome_iff_exists.1 hth.1;have hfro:=hth.2;have hP:=Lib.hid (scene_bytes 3 hSk.out rfl (o:=o+off+0) (b:=[v/1%256]) (by rw[overlay_len (by rw[leB_len];omega)];simp;omega));have hov:=Lib.hid (overlay_snoc (l:=B) (b:=leB v 0) (p:=o+off) (v/1%256) (by rw[leB_len];omega));have hls:=Lib.hid (leB_snoc v 0);clear hth
    try simp only[Nat.add_zero]at hold hfro
    go_wp2_with fail;go_roundw
    case rel=>
     refine⟨1,by omega,by go_num,?_⟩;have h1:=hP.out;have h2:=hov.out;have h3:=hls.out;simp only[Int.reducePow,Nat.reduceAdd]at h3;rw[leB_len, ←h3]at h2;rw[h2]at h1
     first
     |exact h1
     |(rw[Int.ediv_one]at h1;exact h1)
     |(rw[Int.emod_eq_of_lt (a:=v/1) (by omega) (by omega)]at h1;exact h1)
    case measure=>first|(simp[intOf];done)|(simp[intOf];omega)
   ·obtain rfl:k=1:=by omega
    go_wp2_with fail;go_ret;obtain⟨f6,p1,p2,p3⟩:=(hSk.out.erase 0).done;have hov:=overlay_len (l:=B) (b:=leB v 1) (off:=o+off) (by rw[leB_len];omega);refine⟨f6,rfl,⟨⟨hkH.out.s1,hkH.out.u,hkH.out.ul,by rw[hov];exact hkH.out.len,overlay_mem hkH.out.byte (leB_bytes v 1)⟩,ab,.slice (some ⟨g,0,none⟩) B.length cap,?_⟩,p2,p3⟩;unfold arP;rw[hov];exact p1
 ·have hz:v/65536=0:=by
   have:=hcH.out (by omega);simp only[Int.reducePow]at this;simpa using this
  go_wp2_with fail;clear hz;go_loopw [36] (fun i wr=>∃k:Nat,k≤2∧i=.int .i64 k∧Scene f w [blockC w.heap.size (.cells #[.int .i64 o,.int .i64 l] 56 (0,0)),blockC ar (.cells #[.pointer (some ⟨ab,0,none⟩),.slice (some ⟨g,0,none⟩) B.length cap] 147 (0,0)),alC ab (frOf size used) used,rowC (.slice (some ⟨g,0,none⟩) B.length cap) B.length 5 1 (bvals (overlay B (o+off) (leB v k)))] wr) (fun i _=>2-(intOf i).toNat)
  case atStart=>exact⟨0,by omega,rfl,by rw[leB,overlay_nil];exact hS1.out⟩
  case round=>
   obtain⟨k,hk,rfl,hSk⟩:=hrel;have hSk:=Lib.hid hSk;by_cases hlt:k<2
   ·have hcase:k=0∨k=1:=by omega
    rcases hcase with rfl|rfl
    ·have hth:=bytes_there (hSk.out.row 3 rfl) (j:=o+off+0) (by omega);obtain⟨old,hold⟩:=Option.isSome_iff_exists.1 hth.1;have hfro:=hth.2;have hP:=Lib.hid (scene_bytes 3 hSk.out rfl (o:=o+off+0) (b:=[v/1%256]) (by rw[overlay_len (by rw[leB_len];omega)];simp;omega));have hov:=Lib.hid (overlay_snoc (l:=B) (b:=leB v 0) (p:=o+off) (v/1%256) (by rw[leB_len];omega));have hls:=Lib.hid (leB_snoc v 0);clear hth
     try simp only[Nat.add_zero]at hold hfro
     go_wp2_with fail;go_roundw
     case rel=>
      refine⟨1,by omega,by go_num,?_⟩;have h1:=hP.out;have h2:=hov.out;have h3:=hls.out;simp only[Int.reducePow,Nat.reduceAdd]at h3;rw[leB_len, ←h3]at h2;rw[h2]at h1
      first
      |exact h1
      |(rw[Int.ediv_one]at h1;exact h1)
      |(rw[Int.emod_eq_of_lt (a:=v/1) (by omega) (by omega)]at h1;exact h1)
     case measure=>first|(simp[intOf];done)|(simp[intOf];omega)
    ·have hth:=bytes_there (hSk.out.row 3 rfl) (j:=o+off+1) (by omega);obtain⟨old,hold⟩:=Option.isSome_iff_exists.1 hth.1;have hfro:=hth.2;have hP:=Lib.hid (scene_bytes 3 hSk.out rfl (o:=o+off+1) (b:=[v/256%256]) (by rw[overlay_len (by rw[leB_len];omega)];simp;omega));have hov:=Lib.hid (overlay_snoc (l:=B) (b:=leB v 1) (p:=o+off) (v/256%256) (by rw[leB_len];omega));have hls:=Lib.hid (leB_snoc v 1);clear hth
     try simp only[Nat.add_zero]at hold hfro
     go_wp2_with fail;go_roundw
     case rel=>
      refine⟨2,by omega,by go_num,?_⟩;have h1:=hP.out;have h2:=hov.out;have h3:=hls.out;simp only[Int.reducePow,Nat.reduceAdd]at h3;rw[leB_len, ←h3]at h2;rw[h2]at h1
      first
      |exact h1
      |(rw[Int.ediv_one]at h1;exact h1)
      |(rw[Int.emod_eq_of_lt (a:=v/256) (by omega) (by omega)]at h1;exact h1)
     case measure=>first|(simp[intOf];done)|(simp[intOf];omega)
   ·obtain rfl:k=2:=by omega
    go_wp2_with fail;go_ret;obtain⟨f6,p1,p2,p3⟩:=(hSk.out.erase 0).done;have hov:=overlay_len (l:=B) (b:=leB v 2) (off:=o+off) (by rw[leB_len];omega);refine⟨f6,rfl,⟨⟨hkH.out.s1,hkH.out.u,hkH.out.ul,by rw[hov];exact hkH.out.len,overlay_mem hkH.out.byte (leB_bytes v 2)⟩,ab,.slice (some ⟨g,0,none⟩) B.length cap,?_⟩,p2,p3⟩;unfold arP;rw[hov];exact p1
 ·have hz:v/4294967296=0:=by
   have:=hcH.out (by omega);simp only[Int.reducePow]at this;simpa using this
  go_wp2_with fail;clear hz;go_loopw [36] (fun i wr=>∃k:Nat,k≤4∧i=.int .i64 k∧Scene f w [blockC w.heap.size (.cells #[.int .i64 o,.int .i64 l] 56 (0,0)),blockC ar (.cells #[.pointer (some ⟨ab,0,none⟩),.slice (some ⟨g,0,none⟩) B.length cap] 147 (0,0)),alC ab (frOf size used) used,rowC (.slice (some ⟨g,0,none⟩) B.length cap) B.length 5 1 (bvals (overlay B (o+off) (leB v k)))] wr) (fun i _=>4-(intOf i).toNat)
  case atStart=>exact⟨0,by omega,rfl,by rw[leB,overlay_nil];exact hS1.out⟩
  case round=>
   obtain⟨k,hk,rfl,hSk⟩:=hrel;have hSk:=Lib.hid hSk;by_cases hlt:k<4
   ·have hcase:k=0∨k=1∨k=2∨k=3:=by omega
    rcases hcase with rfl|rfl|rfl|rfl
    ·have hth:=bytes_there (hSk.out.row 3 rfl) (j:=o+off+0) (by omega);obtain⟨old,hold⟩:=Option.isSome_iff_exists.1 hth.1;have hfro:=hth.2;have hP:=Lib.hid (scene_bytes 3 hSk.out rfl (o:=o+off+0) (b:=[v/1%256]) (by rw[overlay_len (by rw[leB_len];omega)];simp;omega));have hov:=Lib.hid (overlay_snoc (l:=B) (b:=leB v 0) (p:=o+off) (v/1%256) (by rw[leB_len];omega));have hls:=Lib.hid (leB_snoc v 0);clear hth
     try simp only[Nat.add_zero]at hold hfro
     go_wp2_with fail;go_roundw
     case rel=>
      refine⟨1,by omega,by go_num,?_⟩;have h1:=hP.out;have h2:=hov.out;have h3:=hls.out;simp only[Int.reducePow,Nat.reduceAdd]at h3;rw[leB_len, ←h3]at h2;rw[h2]at h1
      first
      |exact h1
      |(rw[Int.ediv_one]at h1;exact h1)
      |(rw[Int.emod_eq_of_lt (a:=v/1) (by omega) (by omega)]at h1;exact h1)
     case measure=>first|(simp[intOf];done)|(simp[intOf];omega)
    ·have hth:=bytes_there (hSk.out.row 3 rfl) (j:=o+off+1) (by omega);obtain⟨old,hold⟩:=Option.isSome_iff_exists.1 hth.1;have hfro:=hth.2;have hP:=Lib.hid (scene_bytes 3 hSk.out rfl (o:=o+off+1) (b:=[v/256%256]) (by rw[overlay_len (by rw[leB_len];omega)];simp;omega));have hov:=Lib.hid (overlay_snoc (l:=B) (b:=leB v 1) (p:=o+off) (v/256%256) (by rw[leB_len];omega));have hls:=Lib.hid (leB_snoc v 1);clear hth
     try simp only[Nat.add_zero]at hold hfro
     go_wp2_with fail;go_roundw
     case rel=>
      refine⟨2,by omega,by go_num,?_⟩;have h1:=hP.out;have h2:=hov.out;have h3:=hls.out;simp only[Int.reducePow,Nat.reduceAdd]at h3;rw[leB_len, ←h3]at h2;rw[h2]at h1
      first
      |exact h1
      |(rw[Int.ediv_one]at h1;exact h1)
      |(rw[Int.emod_eq_of_lt (a:=v/256) (by omega) (by omega)]at h1;exact h1)
     case measure=>first|(simp[intOf];done)|(simp[intOf];omega)
    ·have hth:=bytes_there (hSk.out.row 3 rfl) (j:=o+off+2) (by omega);obtain⟨old,hold⟩:=Option.isSome_iff_exists.1 hth.1;have hfro:=hth.2;have hP:=Lib.hid (scene_bytes 3 hSk.out rfl (o:=o+off+2) (b:=[v/65536%256]) (by rw[overlay_len (by rw[leB_len];omega)];simp;omega));have hov:=Lib.hid (overlay_snoc (l:=B) (b:=leB v 2) (p:=o+off) (v/65536%256) (by rw[leB_len];omega));have hls:=Lib.hid (leB_snoc v 2);clear hth
     try simp only[Nat.add_zero]at hold hfro
     go_wp2_with fail;go_roundw
     case rel=>
      refine⟨3,by omega,by go_num,?_⟩;have h1:=hP.out;have h2:=hov.out;have h3:=hls.out;simp only[Int.reducePow,Nat.reduceAdd]at h3;rw[leB_len, ←h3]at h2;rw[h2]at h1
      first
      |exact h1
      |(rw[Int.ediv_one]at h1;exact h1)
      |(rw[Int.emod_eq_of_lt (a:=v/65536) (by omega) (by omega)]at h1;exact h1)
     case measure=>first|(simp[intOf];done)|(simp[intOf];omega)
    ·have hth:=bytes_there (hSk.out.row 3 rfl) (j:=o+off+3) (by omega);obtain⟨old,hold⟩:=Option.isSome_iff_exists.1 hth.1;have hfro:=hth.2;have hP:=Lib.hid (scene_bytes 3 hSk.out rfl (o:=o+off+3) (b:=[v/16777216%256]) (by rw[overlay_len (by rw[leB_len];omega)];simp;omega));have hov:=Lib.hid (overlay_snoc (l:=B) (b:=leB v 3) (p:=o+off) (v/16777216%256) (by rw[leB_len];omega));have hls:=Lib.hid (leB_snoc v 3);clear hth
     try simp only[Nat.add_zero]at hold hfro
     go_wp2_with fail;go_roundw
     case rel=>
      refine⟨4,by omega,by go_num,?_⟩;have h1:=hP.out;have h2:=hov.out;have h3:=hls.out;simp only[Int.reducePow,Nat.reduceAdd]at h3;rw[leB_len, ←h3]at h2;rw[h2]at h1
      first
      |exact h1
      |(rw[Int.ediv_one]at h1;exact h1)
      |(rw[Int.emod_eq_of_lt (a:=v/16777216) (by omega) (by omega)]at h1;exact h1)
     case measure=>first|(simp[intOf];done)|(simp[intOf];omega)
   ·obtain rfl:k=4:=by omega
    go_wp2_with fail;go_ret;obtain⟨f6,p1,p2,p3⟩:=(hSk.out.erase 0).done;have hov:=overlay_len (l:=B) (b:=leB v 4) (off:=o+off) (by rw[leB_len];omega);refine⟨f6,rfl,⟨⟨hkH.out.s1,hkH.out.u,hkH.out.ul,by rw[hov];exact hkH.out.len,overlay_mem hkH.out.byte (leB_bytes v 4)⟩,ab,.slice (some ⟨g,0,none⟩) B.length cap,?_⟩,p2,p3⟩;unfold arP;rw[hov];exact p1
 ·go_wp2_with fail;go_loopw [36] (fun i wr=>∃k:Nat,k≤8∧i=.int .i64 k∧Scene f w [blockC w.heap.size (.cells #[.int .i64 o,.int .i64 l] 56 (0,0)),blockC ar (.cells #[.pointer (some ⟨ab,0,none⟩),.slice (some ⟨g,0,none⟩) B.length cap] 147 (0,0)),alC ab (frOf size used) used,rowC (.slice (some ⟨g,0,none⟩) B.length cap) B.length 5 1 (bvals (overlay B (o+off) (leB v k)))] wr) (fun i _=>8-(intOf i).toNat)
  case atStart=>exact⟨0,by omega,rfl,by rw[leB,overlay_nil];exact hS1.out⟩
  case round=>
   obtain⟨k,hk,rfl,hSk⟩:=hrel;have hSk:=Lib.hid hSk;by_cases hlt:k<8
   ·have hcase:k=0∨k=1∨k=2∨k=3∨k=4∨k=5∨k=6∨k=7:=by omega
    rcases hcase with rfl|rfl|rfl|rfl|rfl|rfl|rfl|rfl
    ·have hth:=bytes_there (hSk.out.row 3 rfl) (j:=o+off+0) (by omega);obtain⟨old,hold⟩:=Option.isSome_iff_exists.1 hth.1;have hfro:=hth.2;have hP:=Lib.hid (scene_bytes 3 hSk.out rfl (o:=o+off+0) (b:=[v/1%256]) (by rw[overlay_len (by rw[leB_len];omega)];simp;omega));have hov:=Lib.hid (overlay_snoc (l:=B) (b:=leB v 0) (p:=o+off) (v/1%256) (by rw[leB_len];omega));have hls:=Lib.hid (leB_snoc v 0);clear hth
     try simp only[Nat.add_zero]at hold hfro
     go_wp2_with fail;go_roundw
     case rel=>
      refine⟨1,by omega,by go_num,?_⟩;have h1:=hP.out;have h2:=hov.out;have h3:=hls.out;simp only[Int.reducePow,Nat.reduceAdd]at h3;rw[leB_len, ←h3]at h2;rw[h2]at h1
      first
      |exact h1
      |(rw[Int.ediv_one]at h1;exact h1)
      |(rw[Int.emod_eq_of_lt (a:=v/1) (by omega) (by omega)]at h1;exact h1)
     case measure=>first|(simp[intOf];done)|(simp[intOf];omega)
    ·have hth:=bytes_there (hSk.out.row 3 rfl) (j:=o+off+1) (by omega);obtain⟨old,hold⟩:=Option.isSome_iff_exists.1 hth.1;have hfro:=hth.2;have hP:=Lib.hid (scene_bytes 3 hSk.out rfl (o:=o+off+1) (b:=[v/256%256]) (by rw[overlay_len (by rw[leB_len];omega)];simp;omega));have hov:=Lib.hid (overlay_snoc (l:=B) (b:=leB v 1) (p:=o+off) (v/256%256) (by rw[leB_len];omega));have hls:=Lib.hid (leB_snoc v 1);clear hth
     try simp only[Nat.add_zero]at hold hfro
     go_wp2_with fail;go_roundw
     case rel=>
      refine⟨2,by omega,by go_num,?_⟩;have h1:=hP.out;have h2:=hov.out;have h3:=hls.out;simp only[Int.reducePow,Nat.reduceAdd]at h3;rw[leB_len, ←h3]at h2;rw[h2]at h1
      first
      |exact h1
      |(rw[Int.ediv_one]at h1;exact h1)
      |(rw[Int.emod_eq_of_lt (a:=v/256) (by omega) (by omega)]at h1;exact h1)
     case measure=>first|(simp[intOf];done)|(simp[intOf];omega)
    ·have hth:=bytes_there (hSk.out.row 3 rfl) (j:=o+off+2) (by omega);obtain⟨old,hold⟩:=Option.isSome_iff_exists.1 hth.1;have hfro:=hth.2;have hP:=Lib.hid (scene_bytes 3 hSk.out rfl (o:=o+off+2) (b:=[v/65536%256]) (by rw[overlay_len (by rw[leB_len];omega)];simp;omega));have hov:=Lib.hid (overlay_snoc (l:=B) (b:=leB v 2) (p:=o+off) (v/65536%256) (by rw[leB_len];omega));have hls:=Lib.hid (leB_snoc v 2);clear hth
     try simp only[Nat.add_zero]at hold hfro
     go_wp2_with fail;go_roundw
     case rel=>
      refine⟨3,by omega,by go_num,?_⟩;have h1:=hP.out;have h2:=hov.out;have h3:=hls.out;simp only[Int.reducePow,Nat.reduceAdd]at h3;rw[leB_len, ←h3]at h2;rw[h2]at h1
      first
      |exact h1
      |(rw[Int.ediv_one]at h1;exact h1)
      |(rw[Int.emod_eq_of_lt (a:=v/65536) (by omega) (by omega)]at h1;exact h1)
     case measure=>first|(simp[intOf];done)|(simp[intOf];omega)
    ·have hth:=bytes_there (hSk.out.row 3 rfl) (j:=o+off+3) (by omega);obtain⟨old,hold⟩:=Option.isSome_iff_exists.1 hth.1;have hfro:=hth.2;have hP:=Lib.hid (scene_bytes 3 hSk.out rfl (o:=o+off+3) (b:=[v/16777216%256]) (by rw[overlay_len (by rw[leB_len];omega)];simp;omega));have hov:=Lib.hid (overlay_snoc (l:=B) (b:=leB v 3) (p:=o+off) (v/16777216%256) (by rw[leB_len];omega));have hls:=Lib.hid (leB_snoc v 3);clear hth
     try simp only[Nat.add_zero]at hold hfro
     go_wp2_with fail;go_roundw
     case rel=>
      refine⟨4,by omega,by go_num,?_⟩;have h1:=hP.out;have h2:=hov.out;have h3:=hls.out;simp only[Int.reducePow,Nat.reduceAdd]at h3;rw[leB_len, ←h3]at h2;rw[h2]at h1
      first
      |exact h1
      |(rw[Int.ediv_one]at h1;exact h1)
      |(rw[Int.emod_eq_of_lt (a:=v/16777216) (by omega) (by omega)]at h1;exact h1)
     case measure=>first|(simp[intOf];done)|(simp[intOf];omega)
    ·have hth:=bytes_there (hSk.out.row 3 rfl) (j:=o+off+4) (by omega);obtain⟨old,hold⟩:=Option.isSome_iff_exists.1 hth.1;have hfro:=hth.2;have hP:=Lib.hid (scene_bytes 3 hSk.out rfl (o:=o+off+4) (b:=[v/4294967296%256]) (by rw[overlay_len (by rw[leB_len];omega)];simp;omega));have hov:=Lib.hid (overlay_snoc (l:=B) (b:=leB v 4) (p:=o+off) (v/4294967296%256) (by rw[leB_len];omega));have hls:=Lib.hid (leB_snoc v 4);clear hth
     try simp only[Nat.add_zero]at hold hfro
     go_wp2_with fail;go_roundw
     case rel=>
      refine⟨5,by omega,by go_num,?_⟩;have h1:=hP.out;have h2:=hov.out;have h3:=hls.out;simp only[Int.reducePow,Nat.reduceAdd]at h3;rw[leB_len, ←h3]at h2;rw[h2]at h1
      first
      |exact h1
      |(rw[Int.ediv_one]at h1;exact h1)
      |(rw[Int.emod_eq_of_lt (a:=v/4294967296) (by omega) (by omega)]at h1;exact h1)
     case measure=>first|(simp[intOf];done)|(simp[intOf];omega)
    ·have hth:=bytes_there (hSk.out.row 3 rfl) (j:=o+off+5) (by omega);obtain⟨old,hold⟩:=Option.isSome_iff_exists.1 hth.1;have hfro:=hth.2;have hP:=Lib.hid (scene_bytes 3 hSk.out rfl (o:=o+off+5) (b:=[v/1099511627776%256]) (by rw[overlay_len (by rw[leB_len];omega)];simp;omega));have hov:=Lib.hid (overlay_snoc (l:=B) (b:=leB v 5) (p:=o+off) (v/1099511627776%256) (by rw[leB_len];omega));have hls:=Lib.hid (leB_snoc v 5);clear hth
     try simp only[Nat.add_zero]at hold hfro
     go_wp2_with fail;go_roundw
     case rel=>
      refine⟨6,by omega,by go_num,?_⟩;have h1:=hP.out;have h2:=hov.out;have h3:=hls.out;simp only[Int.reducePow,Nat.reduceAdd]at h3;rw[leB_len, ←h3]at h2;rw[h2]at h1
      first
      |exact h1
      |(rw[Int.ediv_one]at h1;exact h1)
      |(rw[Int.emod_eq_of_lt (a:=v/1099511627776) (by omega) (by omega)]at h1;exact h1)
     case measure=>first|(simp[intOf];done)|(simp[intOf];omega)
    ·have hth:=bytes_there (hSk.out.row 3 rfl) (j:=o+off+6) (by omega);obtain⟨old,hold⟩:=Option.isSome_iff_exists.1 hth.1;have hfro:=hth.2;have hP:=Lib.hid (scene_bytes 3 hSk.out rfl (o:=o+off+6) (b:=[v/281474976710656%256]) (by rw[overlay_len (by rw[leB_len];omega)];simp;omega));have hov:=Lib.hid (overlay_snoc (l:=B) (b:=leB v 6) (p:=o+off) (v/281474976710656%256) (by rw[leB_len];omega));have hls:=Lib.hid (leB_snoc v 6);clear hth
     try simp only[Nat.add_zero]at hold hfro
     go_wp2_with fail;go_roundw
     case rel=>
      refine⟨7,by omega,by go_num,?_⟩;have h1:=hP.out;have h2:=hov.out;have h3:=hls.out;simp only[Int.reducePow,Nat.reduceAdd]at h3;rw[leB_len, ←h3]at h2;rw[h2]at h1
      first
      |exact h1
      |(rw[Int.ediv_one]at h1;exact h1)
      |(rw[Int.emod_eq_of_lt (a:=v/281474976710656) (by omega) (by omega)]at h1;exact h1)
     case measure=>first|(simp[intOf];done)|(simp[intOf];omega)
    ·have hth:=bytes_there (hSk.out.row 3 rfl) (j:=o+off+7) (by omega);obtain⟨old,hold⟩:=Option.isSome_iff_exists.1 hth.1;have hfro:=hth.2;have hP:=Lib.hid (scene_bytes 3 hSk.out rfl (o:=o+off+7) (b:=[v/72057594037927936%256]) (by rw[overlay_len (by rw[leB_len];omega)];simp;omega));have hov:=Lib.hid (overlay_snoc (l:=B) (b:=leB v 7) (p:=o+off) (v/72057594037927936%256) (by rw[leB_len];omega));have hls:=Lib.hid (leB_snoc v 7);clear hth
     try simp only[Nat.add_zero]at hold hfro
     go_wp2_with fail;go_roundw
     case rel=>
      refine⟨8,by omega,by go_num,?_⟩;have h1:=hP.out;have h2:=hov.out;have h3:=hls.out;simp only[Int.reducePow,Nat.reduceAdd]at h3;rw[leB_len, ←h3]at h2;rw[h2]at h1
      first
      |exact h1
      |(rw[Int.ediv_one]at h1;exact h1)
      |(rw[Int.emod_eq_of_lt (a:=v/72057594037927936) (by omega) (by omega)]at h1;exact h1)
     case measure=>first|(simp[intOf];done)|(simp[intOf];omega)
   ·obtain rfl:k=8:=by omega
    go_wp2_with fail;go_ret;obtain⟨f6,p1,p2,p3⟩:=(hSk.out.erase 0).done;have hov:=overlay_len (l:=B) (b:=leB v 8) (off:=o+off) (by rw[leB_len];omega);refine⟨f6,rfl,⟨⟨hkH.out.s1,hkH.out.u,hkH.out.ul,by rw[hov];exact hkH.out.len,overlay_mem hkH.out.byte (leB_bytes v 8)⟩,ab,.slice (some ⟨g,0,none⟩) B.length cap,?_⟩,p2,p3⟩;unfold arP;rw[hov];exact p1
theorem arstore_ok {ar:Nat} {size:Int} {used:List Ext} {B:List Int} {w:World} {f:List Nat} (h:(arC ar size used B).on w f) {o l:Nat} (hx:((o:Int),(l:Int))∈used) (off n:Nat) (hn:off+n≤l) (hw:wOk n) (v:Int) (v0:0≤v) (v1:v≤18446744073709551615):
  Calls Tryz.prog 51 #[.pointer (some ⟨ar,0,none⟩),.agg #[.int .i64 o,.int .i64 l],.int .i64 off,.int .i64 n,.int .u64 v] w (Takes (arC ar size used (storeN B (o+off) n v)) (.int .i64 (storeE n v)) w f):=by
 cases hfb:fitN v n with
 |true=>
  rw[show storeN B (o+off) n v=overlay B (o+off) (leB v n) by unfold storeN;rw[hfb];rfl,show storeE n v=0 by unfold storeE;rw[hfb];rfl];exact arstore_yes h hx off n hn hw v v0 v1 hfb
 |false=>
  rw[show storeN B (o+off) n v=B by unfold storeN;rw[hfb];rfl,show storeE n v=9 by unfold storeE;rw[hfb];rfl];exact arstore_no h hx off n hn hw v v0 v1 hfb
end Go.Proofs.YteidpgdfocjdbaaGreat
