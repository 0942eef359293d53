/- The program's heap, nil or zero: Define, Start and the readings. -/
import Derived.Test.YtapbeogoojejmaaGreatC02
import Derived.Test.YtapbeogoojejmaaGreatC03
import Derived.Test.YtapbeogoojejmaaGreatC04
import Derived.Test.YtapbeogoojejmaaGreatC06
import Derived.Test.YtapbeogoojejmaaGreatC07
import Derived.Test.YtapbeogoojejmaaGreatC08
import Derived.Test.YtapbeogoojejmaaGreatC09
import Derived.Test.YtapbeogoojejmaaGreatC10
import Derived.Test.YtapbeogoojejmaaGreatC12
import Derived.Test.YtapbeogoojejmaaGreatC14
import Derived.Test.YtapbeogoojejmaaGreatC15
import Derived.Test.YtapbeogoojejmaaGreatC16
import Derived.Test.YtapbeogoojejmaaGreatC17
import Derived.Test.YtapbeogoojejmaaGreatC18
import Derived.Test.YtapbeogoojejmaaGreatC19
import Derived.Test.YtapbeogoojejmaaGreatC20
import Derived.Test.YtapbeogoojejmaaGreatC25
import Derived.Test.YtapbeogoojejmaaGreatC26
import Derived.Test.YtapbeogoojejmaaGreatC29
import Derived.Test.YtapbeogoojejmaaGreatC30
import Derived.Test.YtapbeogoojejmaaGreatC38
import Derived.Test.YtapbeogoojejmaaGreatC43
import Derived.Test.YtapbeogoojejmaaGreatCS
namespace Go.Proofs.YtapbeogoojejmaaGreat
open Go Go.RowKit Go.Stg
attribute [local go_sem] Oper.semAt_some
theorem bytes_none (w:World):BytesAt w (.slice none 0 0) []:=.inl ⟨rfl,rfl⟩
theorem rsum_nil (w:World):Calls Tryz.prog 29 #[.slice none 0 0] w fun e w'=>e=.returned (.int .u64 14695981039346656037)∧Mod [] w w':=by
 go_enter Tryz.func29,Tryz.ntmps29;go_wp2_with fail;go_loopw [3,4] (fun d i wr=>(d=.int .u64 14695981039346656037∧i=.int .i64 0)∧Mod [] w wr) (fun _ _ _=>0)
 case atStart=>exact⟨⟨rfl,rfl⟩,Mod.refl _ _⟩
 case round=>
  obtain⟨⟨rfl,rfl⟩,hm⟩:=hrel;go_wp2_with fail;go_ret;exact⟨rfl,hm⟩
theorem nul_len (w:World):Calls Tryz.prog 149 #[.pointer none] w fun e w'=>e=.returned (.int .i64 0)∧Mod [] w w':=by
 go_enter Tryz.func149,Tryz.ntmps149;go_wp2_with fail;go_ret;exact⟨rfl,Mod.refl _ _⟩
theorem nul_bytes (w:World):Calls Tryz.prog 91 #[.pointer none] w fun e w'=>e=.returned (.slice none 0 0)∧Mod [] w w':=by
 go_enter Tryz.func91,Tryz.ntmps91;go_wp2_with fail;go_ret;exact⟨rfl,Mod.refl _ _⟩
theorem nul_digest (w:World):Calls Tryz.prog 92 #[.pointer none] w fun e w'=>e=.returned (.int .u64 14695981039346656037)∧Mod [] w w':=by
 go_enter Tryz.func92,Tryz.ntmps92;go_wp2_with fail;refine(nul_len _).mono ?_;rintro e w1 ⟨rfl,hm⟩;have hd:=Lib.hid (digsum_ok (bytes_none w1));go_wp2_with fail;refine hd.out.mono ?_;rintro e w2 ⟨rfl,rfl⟩;go_wp2_with fail;go_ret;exact⟨rfl,hm⟩
theorem nul_list (g:Fn) (w:World):Calls Tryz.prog 176 #[.pointer none,.func g #[] #[]] w fun e w'=>e=.returned (.func (.func 199) #[] #[.pointer (some ⟨w.heap.size,0,none⟩),.pointer (some ⟨w.heap.size+1,0,none⟩)])∧w'=(w.alloc (.cells #[.pointer none] 37)).alloc (.cells #[.func g #[] #[]] 203):=by
 go_enter Tryz.func176,Tryz.ntmps176;go_wp2_with fail;go_ret;exact⟨by simp,rfl⟩
theorem nul_all (w:World):Calls Tryz.prog 151 #[.pointer none] w fun e w'=>e=.returned (.func (.func 199) #[] #[.pointer (some ⟨w.heap.size,0,none⟩),.pointer (some ⟨w.heap.size+1,0,none⟩)])∧w'=(w.alloc (.cells #[.pointer none] 37)).alloc (.cells #[.func (.func 177) #[] #[]] 203):=by
 go_enter Tryz.func151,Tryz.ntmps151;go_wp2_with fail;refine(nul_list _ _).mono ?_;rintro e w1 ⟨rfl,rfl⟩;go_wp2_with fail;go_ret;exact⟨rfl,rfl⟩
theorem nul_listC {w:World} {Bs:Nat} (hBs:w.heap[Bs]? =some (.cells #[.pointer none] 37 (0,0))) (f x:Value):Calls Tryz.prog 199 #[f,.pointer (some ⟨Bs,0,none⟩),x] w fun e w'=>(∃v,e=.returned v)∧Mod [] w w':=by
 have hc:=cells_of hBs;clear hBs;go_enter Tryz.func199,Tryz.ntmps199;go_wp2_with fail;refine bodyPost_ret (results_none rfl _ _ _) rfl ?_;exact⟨⟨_,rfl⟩,Mod.refl _ _⟩
section
variable {w:World} {q:Option Addr} (h:NulH w q)
include h
theorem nulh_define (len:Int) (v:Value) (fs:List Ty.Fld) (hF:Ty.FieldsAt w v fs) (hn: -9223372036854775808≤len) (hn2:len≤9223372036854775807) {r:Int} (hr:Ty.errT len fs=r):
  Calls Tryz.prog 7 #[.pointer q,.agg #[.int .i64 len,v]] w fun e w'=>e=.returned (.tuple #[.int .i64 0,.int .i64 (if r=0 then 4 else r)])∧Mod [] w w':=by
 have hm0:=(Mod.refl [] w).alloc (.cells #[.int .i64 len,v] 27);have cbox:=at_alloc w (.cells #[.int .i64 len,v] 27);have hC:=fun w' (hm:Mod [] w w')=>Ty.check_ok len v fs w' (hF.mod hm) hn hn2
 rw[hr]at hC;have hC:=Lib.hid hC;have hw1:=Lib.hid (nulh_works (h.mod hm0));have hm0:=Lib.hid hm0;have cbox:=Lib.hid cbox;clear hF hr h;by_cases hz:r=0
 ·subst hz;rw[if_pos rfl];go_enter Tryz.func7,Tryz.ntmps7;go_wp2_with fail;refine hw1.out.mono ?_;rintro e w1 ⟨rfl,hm1⟩;have cb:=cells_of (hm1.at cbox.out (by simp));have hm1:=hm0.out.nil_then hm1;have hC1:=Lib.hid (hC.out _ hm1);have hm1:=Lib.hid hm1;clear hC hw1 cbox hm0;go_wp2_with fail;refine hC1.out.mono ?_;rintro e w2 ⟨rfl,hm2⟩;have hm2:=Lib.hid (hm1.out.nil_then hm2);clear cb hC1;go_wp2_with fail;go_ret2;exact⟨rfl,hm2.out⟩
 ·rw[if_neg hz];have z:(r==0)=false:=by simp only[beq_eq_false_iff_ne];exact hz
  clear hz;go_enter Tryz.func7,Tryz.ntmps7;go_wp2_with fail;refine hw1.out.mono ?_;rintro e w1 ⟨rfl,hm1⟩;have cb:=cells_of (hm1.at cbox.out (by simp));have hm1:=hm0.out.nil_then hm1;have hC1:=Lib.hid (hC.out _ hm1);have hm1:=Lib.hid hm1;clear hC hw1 cbox hm0;go_wp2_with fail;refine hC1.out.mono ?_;rintro e w2 ⟨rfl,hm2⟩;have hm2:=Lib.hid (hm1.out.nil_then hm2);clear cb hC1;go_wp2_with fail;go_ret2;exact⟨rfl,hm2.out⟩
theorem nulh_start (p:Int):Calls Tryz.prog 12 #[.pointer q,.int .i64 p] w fun e w'=>e=.returned (.int .i64 (if p<1∨64<p then 15 else 28))∧Mod [] w w':=by
 have hW:=Lib.hid fun w' hm=>nulh_works (h.mod (w':=w') hm)
 have hir:=Lib.hid (inrange_ok p 1 64 w);clear h;by_cases hp:p<1∨64<p
 ·have hr1:(decide (1≤p)&&decide (p≤64))=false:=by
   rcases hp with hp|hp
   ·simp;omega
   ·simp;omega
  rw[if_pos hp];rw[hr1]at hir;clear hp hr1;go_enter Tryz.func12,Tryz.ntmps12;go_wp2_with fail;refine hir.out.mono ?_;rintro e w1 ⟨rfl,hm⟩;go_wp2_with fail;go_ret;exact⟨rfl,hm⟩
 ·have hr1:(decide (1≤p)&&decide (p≤64))=true:=by simp;omega
  rw[if_neg hp];rw[hr1]at hir;clear hp hr1;go_enter Tryz.func12,Tryz.ntmps12;go_wp2_with fail;refine hir.out.mono ?_;rintro e w1 ⟨rfl,hm⟩;go_wp2_with fail;refine(hW.out _ hm).mono ?_;rintro e w2 ⟨rfl,hm2⟩;have hm2:=Lib.hid (hm.nil_then hm2);clear hm hir hW;go_wp2_with fail;go_ret;exact⟨rfl,hm2.out⟩
theorem nulh_usage (p:Int):Calls Tryz.prog 22 #[.pointer q,.int .i64 p] w fun e w'=>e=.returned (.agg #[.int .i64 0,.int .i64 0,.int .i64 0,.int .i64 0,.int .i64 0])∧Mod [] w w':=by
 have hm0:=(Mod.refl [] w).alloc (.cells #[.int .i64 0,.int .i64 0,.int .i64 0,.int .i64 0,.int .i64 0] 61);have hb:=Lib.hid (at_alloc w (.cells #[.int .i64 0,.int .i64 0,.int .i64 0,.int .i64 0,.int .i64 0] 61));have hW:=Lib.hid (nulh_works (h.mod hm0));have hm0:=Lib.hid hm0;clear h;go_enter Tryz.func22,Tryz.ntmps22;go_wp2_with fail;refine hW.out.mono ?_;rintro e w1 ⟨rfl,hm⟩;have hb1:=hm.at hb.out (by simp);have c1:=cells_of hb1;have f1:=frozen_of hb1;have hm1:=Lib.hid (hm0.out.nil_then hm);have hb2:=Lib.hid hb1;clear hb hW hm0 hm hb1;go_wp2_with fail;have h6:=(at_setCell (o:=4) (v:=.int .i64 0) (at_setCell (o:=3) (v:=.int .i64 0) (at_setCell (o:=2) (v:=.int .i64 0) (at_setCell (o:=1) (v:=.int .i64 0) (at_setCell (o:=0) (v:=.int .i64 0) hb2.out)))));refine bodyPost_ret (results_cell_row Tryz.results22 _ _ w.heap.size 61 _ _ _ rfl h6 Tryz.underlying61 rfl (by kernel_rfl)) rfl ?_;exact⟨rfl,(((((hm1.out.setCell (p:=⟨w.heap.size,0,none⟩) (.inr (Nat.le_refl _)) (.int .i64 0)).setCell (p:=⟨w.heap.size,1,none⟩) (.inr (Nat.le_refl _)) (.int .i64 0)).setCell (p:=⟨w.heap.size,2,none⟩) (.inr (Nat.le_refl _)) (.int .i64 0)).setCell (p:=⟨w.heap.size,3,none⟩) (.inr (Nat.le_refl _)) (.int .i64 0)).setCell (p:=⟨w.heap.size,4,none⟩) (.inr (Nat.le_refl _)) (.int .i64 0))⟩
theorem nulh_freelist:Calls Tryz.prog 24 #[.pointer q] w fun e w'=>e=.returned (.slice none 0 0)∧Mod [] w w':=by
 have hW:=Lib.hid (nulh_works h);clear h;go_enter Tryz.func24,Tryz.ntmps24;go_wp2_with fail;refine hW.out.mono ?_;rintro e w1 ⟨rfl,hm⟩;go_wp2_with fail;go_ret;exact⟨rfl,hm⟩
theorem nulh_pool:Calls Tryz.prog 25 #[.pointer q] w fun e w'=>e=.returned (.slice none 0 0)∧Mod [] w w':=by
 have hW:=Lib.hid (nulh_works h);clear h;go_enter Tryz.func25,Tryz.ntmps25;go_wp2_with fail;refine hW.out.mono ?_;rintro e w1 ⟨rfl,hm⟩;go_wp2_with fail;go_ret;exact⟨rfl,hm⟩
theorem nulh_retired:Calls Tryz.prog 26 #[.pointer q] w fun e w'=>e=.returned (.int .i64 0)∧Mod [] w w':=by
 have hW:=Lib.hid (nulh_works h);clear h;go_enter Tryz.func26,Tryz.ntmps26;go_wp2_with fail;refine hW.out.mono ?_;rintro e w1 ⟨rfl,hm⟩;go_wp2_with fail;go_ret;exact⟨rfl,hm⟩
theorem nulh_audit:Calls Tryz.prog 90 #[.pointer q] w fun e w'=>e=.returned (.pointer none)∧Mod [] w w':=by
 have hW:=Lib.hid (nulh_works h);clear h;go_enter Tryz.func90,Tryz.ntmps90;go_wp2_with fail;refine hW.out.mono ?_;rintro e w1 ⟨rfl,hm⟩;go_wp2_with fail;go_ret;exact⟨rfl,hm⟩
theorem nulh_log:Calls Tryz.prog 27 #[.pointer q] w fun e w'=>e=.returned (.slice none 0 0)∧Mod [] w w':=by
 have hA:=Lib.hid (nulh_audit h);clear h;go_enter Tryz.func27,Tryz.ntmps27;go_wp2_with fail;refine hA.out.mono ?_;rintro e w1 ⟨rfl,hm⟩;go_wp2_with fail;refine(nul_bytes _).mono ?_;rintro e w2 ⟨rfl,hm2⟩;have hm2:=hm.nil_then hm2;clear hm;go_wp2_with fail;go_ret;exact⟨rfl,hm2⟩
theorem nulh_digest:Calls Tryz.prog 28 #[.pointer q] w fun e w'=>e=.returned (.int .u64 14695981039346656037)∧Mod [] w w':=by
 have hA:=Lib.hid (nulh_audit h);clear h;go_enter Tryz.func28,Tryz.ntmps28;go_wp2_with fail;refine hA.out.mono ?_;rintro e w1 ⟨rfl,hm⟩;go_wp2_with fail;refine(nul_digest _).mono ?_;rintro e w2 ⟨rfl,hm2⟩;have hm2:=hm.nil_then hm2;clear hm;go_wp2_with fail;go_ret;exact⟨rfl,hm2⟩
theorem nulh_events:Calls Tryz.prog 93 #[.pointer q] w fun e w'=>∃B,e=.returned (.func (.func 199) #[] #[.pointer (some ⟨B,0,none⟩),.pointer (some ⟨B+1,0,none⟩)])∧w'.heap[B]? =some (.cells #[.pointer none] 37 (0,0))∧Mod [] w w':=by
 have hA:=Lib.hid (nulh_audit h);clear h;go_enter Tryz.func93,Tryz.ntmps93;go_wp2_with fail;refine hA.out.mono ?_;rintro e w1 ⟨rfl,hm⟩;go_wp2_with fail;refine(nul_all _).mono ?_;rintro e w2 ⟨rfl,rfl⟩;have hm2:=Lib.hid ((hm.alloc (.cells #[.pointer none] 37)).alloc (.cells #[.func (.func 177) #[] #[]] 203));have hb:=Lib.hid (at_alloc_old (o:=.cells #[.func (.func 177) #[] #[]] 203) (at_alloc w1 (.cells #[.pointer none] 37)));clear hm;go_wp2_with fail;go_ret;exact⟨_,rfl,hb.out,hm2.out⟩
theorem nulh_objs:Calls Tryz.prog 145 #[.pointer q] w fun e w'=>e=.returned (.slice none 0 0)∧Mod [] w w':=by
 have hS:=(((Scene.empty w).alloc (.cells #[.pointer q] 31)).alloc (.cells #[.slice none 0 0] 63));have hW:=Lib.hid (nulh_works (h.mod hS.mod));have cb:=cells_of (hS.block 1 rfl);have hm0:=Lib.hid hS.mod;clear h hS;go_enter Tryz.func145,Tryz.ntmps145;go_wp2_with fail;refine hW.out.mono ?_;rintro e w1 ⟨rfl,hm⟩;have hm1:=Lib.hid (hm0.out.nil_then hm);clear hm hm0 hW cb;go_wp2_with fail;go_ret;exact⟨rfl,hm1.out⟩
end
theorem objects_made (q:Option Addr) (w:World):Calls Tryz.prog 86 #[.pointer q] w fun e w'=>e=.returned (.func (.func 144) #[] #[.pointer (some ⟨w.heap.size,0,none⟩)])∧w'=w.alloc (.cells #[.pointer q] 31):=by
 go_enter Tryz.func86,Tryz.ntmps86;go_wp2_with fail;go_ret;exact⟨rfl,rfl⟩
theorem nulh_objsC {w:World} {q:Option Addr} (h:NulH w q) {Bs:Nat} (hBs:w.heap[Bs]? =some (.cells #[.pointer q] 31 (0,0))) (f:Value):Calls Tryz.prog 144 #[f,.pointer (some ⟨Bs,0,none⟩)] w fun e w'=>(∃v,e=.returned v)∧Mod [] w w':=by
 have hc:=cells_of hBs;have hO:=Lib.hid (nulh_objs h);clear hBs h;go_enter Tryz.func144,Tryz.ntmps144;go_wp2_with fail;refine hO.out.mono ?_;rintro e w1 ⟨rfl,hm⟩;clear hc;go_wp2_with fail;go_loopw [8] (fun i wr=>i=.int .i64 0∧Mod [] w wr) (fun i _=>0)
 case atStart=>exact⟨rfl,hm⟩
 case round=>
  obtain⟨rfl,hm⟩:=hrel;go_wp2_with fail;refine bodyPost_end (results_none rfl _ _ _) rfl ?_;exact⟨⟨_,rfl⟩,hm⟩
theorem says_none {α:Type} {g:Nat} {lb:Array Value} {enc:α→Array Value} {n₀:Nat} {w0:World} (n:Nat)
  (h:∀W,Mod [] w0 W→∀f:Value,Calls Tryz.prog g (#[f]++lb) W fun e w'=>(∃v,e=.returned v)∧Mod [] W w'):
  SeqSays Fence.wide n Tryz.prog g lb enc (fun _ _ _=>False) (RowKit.Below n₀) (fun ys=>ys=[]) (fun _=>False) 0 w0:=by
 intro l J Jx W hW hJ _ h00 _;refine(callsIn_wide.2 (h W (Mod.of_below hW) _)).mono ?_;rintro e V ⟨hv,hm⟩;exact⟨hv,.inl ⟨[],rfl,hJ _ _ _ none h00 (Bw.grown_mod hm) (by simp)⟩⟩
end Go.Proofs.YtapbeogoojejmaaGreat
