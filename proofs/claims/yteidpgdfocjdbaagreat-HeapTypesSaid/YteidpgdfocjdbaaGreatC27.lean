/- Joined contracts. No conditions. -/
import Derived.Test.YteidpgdfocjdbaaGreatCS
import Derived.Test.YteidpgdfocjdbaaGreatC05
import Derived.Test.YteidpgdfocjdbaaGreatC06
import Derived.Test.YteidpgdfocjdbaaGreatC16
import Derived.Test.YteidpgdfocjdbaaGreatC19
import Derived.Test.YteidpgdfocjdbaaGreatC26
set_option maxHeartbeats 2000000
set_option maxRecDepth 20000
namespace Go.Proofs.YteidpgdfocjdbaaGreat
open Go Go.RowKit Go.Stg
theorem row_bytes {w:World} {b n:Nat} {v:Value} {bs:List Int} (h:w.ownsRow b 5 1 v n (bvals bs)) (hn:n=bs.length) (hx:∀x∈bs,0≤x∧x≤255) (hl:bs.length≤100000000):BytesAt w v bs:=by
 rcases row_cases h with⟨rfl,h2,h3⟩|⟨g,cap,rfl,_,hlt,_,_,hc⟩
 ·refine .inl ⟨rfl,?_⟩;have:=congrArg List.length h3;rw[bvals_len]at this;exact List.length_eq_zero_iff.1 this
 ·subst hn;refine .inr ⟨g,0,cap,rfl,hlt,by unfold maxLen;omega,fun i hi=>⟨hx _ (List.getElem_mem hi),?_⟩⟩;rw[Nat.zero_add,hc i (by omega)];unfold bvals;rw[List.getElem?_map,List.getElem?_eq_getElem hi];rfl
def evNums (e:Ev):List Nat:=[e.p.toNat,e.op.toNat,e.h.toNat,e.arg.toNat,e.err.toNat]
def encK (e:Ev) (k:Nat):List Int:=((evNums e).take k).flatMap encN
theorem encK_all (e:Ev):encK e 5=encEv e:=by simp[encK,evNums,encEv,List.append_assoc]
theorem encK_next (e:Ev) {k:Nat} (hk:k<5):encK e (k+1)=encK e k++encN ((evNums e)[k]'(by simpa[evNums]using hk)):=by
 have hl:k<(evNums e).length:=by simpa[evNums]using hk
 have h:(evNums e).take (k+1)=(evNums e).take k++[(evNums e)[k]]:=by rw[List.take_add_one,List.getElem?_eq_getElem hl];rfl
 unfold encK;rw[h,List.flatMap_append];simp
theorem encK_sub (e:Ev) {k:Nat} (hk:k≤5):(encK e k).Sublist (encEv e):=by
 rw[←encK_all];unfold encK;have h5:(evNums e).take 5=(evNums e).take k++((evNums e).take 5).drop k:=by
  have h:=List.take_append_drop k ((evNums e).take 5);rw[List.take_take,Nat.min_eq_left hk]at h;exact h.symm
 rw[h5,List.flatMap_append];exact List.sublist_append_left _ _
theorem ix5_0 (a b c d e:Int) (w:World):(Instr.index 214 (.agg #[.int .u64 a,.int .u64 b,.int .u64 c,.int .u64 d,.int .u64 e]) (.int .i64 0)).run Tryz.prog w=.ok (.int .u64 a) w:=by
 simp[Instr.index,run_underlying Tryz.underlying214,asIntOf,go_sem]
theorem ix5_1 (a b c d e:Int) (w:World):(Instr.index 214 (.agg #[.int .u64 a,.int .u64 b,.int .u64 c,.int .u64 d,.int .u64 e]) (.int .i64 1)).run Tryz.prog w=.ok (.int .u64 b) w:=by
 simp[Instr.index,run_underlying Tryz.underlying214,asIntOf,go_sem]
theorem ix5_2 (a b c d e:Int) (w:World):(Instr.index 214 (.agg #[.int .u64 a,.int .u64 b,.int .u64 c,.int .u64 d,.int .u64 e]) (.int .i64 2)).run Tryz.prog w=.ok (.int .u64 c) w:=by
 simp[Instr.index,run_underlying Tryz.underlying214,asIntOf,go_sem]
theorem ix5_3 (a b c d e:Int) (w:World):(Instr.index 214 (.agg #[.int .u64 a,.int .u64 b,.int .u64 c,.int .u64 d,.int .u64 e]) (.int .i64 3)).run Tryz.prog w=.ok (.int .u64 d) w:=by
 simp[Instr.index,run_underlying Tryz.underlying214,asIntOf,go_sem]
theorem ix5_4 (a b c d e:Int) (w:World):(Instr.index 214 (.agg #[.int .u64 a,.int .u64 b,.int .u64 c,.int .u64 d,.int .u64 e]) (.int .i64 4)).run Tryz.prog w=.ok (.int .u64 e) w:=by
 simp[Instr.index,run_underlying Tryz.underlying214,asIntOf,go_sem]
def EncPost (w:World) (e:Ev) (r:Ending) (w':World):Prop:=∃v,r=.returned (.tuple #[v,.int .i64 0])∧w'.ownsRow w.heap.size 5 1 v (encEv e).length (bvals (encEv e))∧Mod [] w w'
theorem evenc_ok {e:Ev} (h:e.ok) (w:World):Calls Tryz.prog 68 #[.agg (evA e)] w (EncPost w e):=by
 have hck:=Lib.hid fun w=>evcheck_ok h w
 have hb:=Lib.hid h;have hall:=Lib.hid (encK_all e);have hnext:=Lib.hid fun k (hk:k<5)=>encK_next e hk
 have hlen:=Lib.hid (encEv_len h);have hbytes:=Lib.hid (encEv_bytes h);obtain⟨p,op,hh,arg,err⟩:=e;obtain⟨h1,h2,h3,h4,h5⟩:=h;simp only at h1 h2 h3 h4 h5;obtain⟨p,rfl⟩:=Int.eq_ofNat_of_zero_le (show 0≤p by omega);obtain⟨op,rfl⟩:=Int.eq_ofNat_of_zero_le (show 0≤op by omega);obtain⟨hh,rfl⟩:=Int.eq_ofNat_of_zero_le (show 0≤hh by omega);obtain⟨arg,rfl⟩:=Int.eq_ofNat_of_zero_le (show 0≤arg by omega);obtain⟨err,rfl⟩:=Int.eq_ofNat_of_zero_le (show 0≤err by omega);unfold evA at hck⊢;simp only at hck⊢;go_enter Tryz.func68,Tryz.ntmps68;go_wp2_with fail;refine(hck.out _).mono ?_;rintro r w1 ⟨rfl,hm1⟩;have hbx:=hm1.at (at_alloc w (.cells #[.int .i64 p,.int .i64 op,.int .u64 hh,.int .u64 arg,.int .i64 err] 99)) (by simp);have kx:=cells_of hbx;have hm1H:=Lib.hid (((Mod.refl [] w).alloc (.cells #[.int .i64 p,.int .i64 op,.int .u64 hh,.int .u64 arg,.int .i64 err] 99)).nil_then hm1);clear hm1 hbx hck;go_wp2_with fail;clear kx;go_loopw [27,5] (fun i ov wr=>∃k:Nat,k≤5∧i=.int .i64 k∧Mod [] w wr∧wr.ownsRow w.heap.size 5 1 ov (encK ⟨p,op,hh,arg,err⟩ k).length (bvals (encK ⟨p,op,hh,arg,err⟩ k))) (fun i _ _=>5-(intOf i).toNat)
 case atStart=>exact⟨0,by omega,rfl,hm1H.out,World.ownsRow_nil _ _ _ _⟩
 case round=>
  obtain⟨k,hk,rfl,hm,hr⟩:=hrel;have hmH:=Lib.hid hm;have hrH:=Lib.hid hr;obtain⟨oa,ol,oc,rfl⟩:=rowForm hr;clear hm hr;by_cases hlt:k<5
  ·have hnx:=hnext.out k hlt;have hle:(encK ⟨p,op,hh,arg,err⟩ k).length≤50∧∀x∈encK ⟨p,op,hh,arg,err⟩ k,0≤x∧x≤255:=by
    have hsub:(encK ⟨p,op,hh,arg,err⟩ k).Sublist (encEv ⟨p,op,hh,arg,err⟩):=encK_sub _ (by omega);exact⟨Nat.le_trans hsub.length_le hlen.out.2,fun x hx=>hbytes.out x (hsub.subset hx)⟩
   have hB:=Lib.hid (row_bytes hrH.out rfl hle.2 (by omega));have hleH:=Lib.hid hle;clear hle;have hcase:k=0∨k=1∨k=2∨k=3∨k=4:=by omega
   rcases hcase with rfl|rfl|rfl|rfl|rfl
   ·have hix:=fun w=>ix5_0 ↑p ↑op ↑hh ↑arg ↑err w
    have hnx:encK ⟨p,op,hh,arg,err⟩ 1=encK ⟨p,op,hh,arg,err⟩ 0++encN p:=by have:=hnext.out 0 (by omega);simpa[evNums]using this
    have hnxH:=Lib.hid hnx;clear hnx;simp only[show((0:Nat):Int)=0 from rfl];go_wp2_with fail;refine(put_ok _ _ (by have:=hleH.out.1;omega) p (by omega) wr hB.out).mono ?_;rintro r w2 ⟨v2,rfl,hr2,hm2⟩;rw[←hnxH.out]at hr2;obtain⟨a2,l2,c2,rfl⟩:=rowForm hr2;have hr2H:=Lib.hid (row_base hr2 hmH.out.size);have hm2H:=Lib.hid (hmH.out.nil_then hm2);clear hr2 hm2;go_wp2_with fail;go_roundw
    case rel=>exact⟨1,by omega,by go_num,hm2H.out,hr2H.out⟩
    case measure=>simp[intOf]
   ·have hix:=fun w=>ix5_1 ↑p ↑op ↑hh ↑arg ↑err w
    have hnx:encK ⟨p,op,hh,arg,err⟩ 2=encK ⟨p,op,hh,arg,err⟩ 1++encN op:=by have:=hnext.out 1 (by omega);simpa[evNums]using this
    have hnxH:=Lib.hid hnx;clear hnx;simp only[show((1:Nat):Int)=1 from rfl];go_wp2_with fail;refine(put_ok _ _ (by have:=hleH.out.1;omega) op (by omega) wr hB.out).mono ?_;rintro r w2 ⟨v2,rfl,hr2,hm2⟩;rw[←hnxH.out]at hr2;obtain⟨a2,l2,c2,rfl⟩:=rowForm hr2;have hr2H:=Lib.hid (row_base hr2 hmH.out.size);have hm2H:=Lib.hid (hmH.out.nil_then hm2);clear hr2 hm2;go_wp2_with fail;go_roundw
    case rel=>exact⟨2,by omega,by go_num,hm2H.out,hr2H.out⟩
    case measure=>simp[intOf]
   ·have hix:=fun w=>ix5_2 ↑p ↑op ↑hh ↑arg ↑err w
    have hnx:encK ⟨p,op,hh,arg,err⟩ 3=encK ⟨p,op,hh,arg,err⟩ 2++encN hh:=by have:=hnext.out 2 (by omega);simpa[evNums]using this
    have hnxH:=Lib.hid hnx;clear hnx;simp only[show((2:Nat):Int)=2 from rfl];go_wp2_with fail;refine(put_ok _ _ (by have:=hleH.out.1;omega) hh (by omega) wr hB.out).mono ?_;rintro r w2 ⟨v2,rfl,hr2,hm2⟩;rw[←hnxH.out]at hr2;obtain⟨a2,l2,c2,rfl⟩:=rowForm hr2;have hr2H:=Lib.hid (row_base hr2 hmH.out.size);have hm2H:=Lib.hid (hmH.out.nil_then hm2);clear hr2 hm2;go_wp2_with fail;go_roundw
    case rel=>exact⟨3,by omega,by go_num,hm2H.out,hr2H.out⟩
    case measure=>simp[intOf]
   ·have hix:=fun w=>ix5_3 ↑p ↑op ↑hh ↑arg ↑err w
    have hnx:encK ⟨p,op,hh,arg,err⟩ 4=encK ⟨p,op,hh,arg,err⟩ 3++encN arg:=by have:=hnext.out 3 (by omega);simpa[evNums]using this
    have hnxH:=Lib.hid hnx;clear hnx;simp only[show((3:Nat):Int)=3 from rfl];go_wp2_with fail;refine(put_ok _ _ (by have:=hleH.out.1;omega) arg (by omega) wr hB.out).mono ?_;rintro r w2 ⟨v2,rfl,hr2,hm2⟩;rw[←hnxH.out]at hr2;obtain⟨a2,l2,c2,rfl⟩:=rowForm hr2;have hr2H:=Lib.hid (row_base hr2 hmH.out.size);have hm2H:=Lib.hid (hmH.out.nil_then hm2);clear hr2 hm2;go_wp2_with fail;go_roundw
    case rel=>exact⟨4,by omega,by go_num,hm2H.out,hr2H.out⟩
    case measure=>simp[intOf]
   ·have hix:=fun w=>ix5_4 ↑p ↑op ↑hh ↑arg ↑err w
    have hnx:encK ⟨p,op,hh,arg,err⟩ 5=encK ⟨p,op,hh,arg,err⟩ 4++encN err:=by have:=hnext.out 4 (by omega);simpa[evNums]using this
    have hnxH:=Lib.hid hnx;clear hnx;simp only[show((4:Nat):Int)=4 from rfl];go_wp2_with fail;refine(put_ok _ _ (by have:=hleH.out.1;omega) err (by omega) wr hB.out).mono ?_;rintro r w2 ⟨v2,rfl,hr2,hm2⟩;rw[←hnxH.out]at hr2;obtain⟨a2,l2,c2,rfl⟩:=rowForm hr2;have hr2H:=Lib.hid (row_base hr2 hmH.out.size);have hm2H:=Lib.hid (hmH.out.nil_then hm2);clear hr2 hm2;go_wp2_with fail;go_roundw
    case rel=>exact⟨5,by omega,by go_num,hm2H.out,hr2H.out⟩
    case measure=>simp[intOf]
  ·obtain rfl:k=5:=by omega
   have hf:=hrH.out;rw[hall.out]at hf;have hfH:=Lib.hid hf;clear hf;go_wp2_with fail;exact bodyPost_ret (v:=.tuple #[.slice oa ol oc,.int .i64 0]) (by simp[results,Tryz.results68,go_sem]) rfl ⟨_,rfl,hfH.out,hmH.out⟩
end Go.Proofs.YteidpgdfocjdbaaGreat
namespace Go.Proofs.YteidpgdfocjdbaaGreat
open Go Go.RowKit Go.Stg
theorem leB_at (v:Int):∀(k i:Nat),i<k→(leB v k)[i]? =some (v/256^i%256)
 |0,_,h=>by omega
 |k+1,0,_=>by simp[leB]
 |k+1,i+1,h=>by
  rw[leB,List.getElem?_cons_succ,leB_at (v/256) k i (by omega),Int.ediv_ediv_of_nonneg (by omega),Int.pow_succ,Int.mul_comm]
def arrB (v:Int) (k:Nat):Array Value:=((List.range 8).map fun i=>Value.int .u8 (if i<k then v/256^i%256 else 0)).toArray
theorem arr_set (v:Int) {k:Nat} (_hk:k<8):(arrB v k).setIfInBounds k (.int .u8 (v/256^k%256))=arrB v (k+1):=by
 unfold arrB;apply Array.ext_getElem?;intro i;by_cases hi:i<8
 ·by_cases e:k=i
  ·subst e;simp[hi]
  ·rw[Array.getElem?_setIfInBounds_ne e];simp only[List.getElem?_toArray,List.getElem?_map,List.getElem?_range hi,Option.map_some];by_cases h:i<k
   ·rw[if_pos h,if_pos (by omega)]
   ·rw[if_neg h,if_neg (by omega)]
 ·rw[Array.getElem?_eq_none (by simp;omega),Array.getElem?_eq_none (by simp;omega)]
theorem arr_bytes (v:Int) {w:World} {b:Nat} {T:TypeId} (h:w.heap[b]? =some (.cells (arrB v 8) T (0,0))):BytesAt w (.slice (some ⟨b,0,none⟩) 8 8) (leB v 8):=by
 have hl:=leB_len v 8;refine .inr ⟨b,0,8,by rw[hl],lt_of h,by rw[hl];decide,fun i hi=> ?_⟩;rw[hl]at hi;have h2:=leB_at v 8 i hi;rw[List.getElem?_eq_getElem (by rw[hl];exact hi)]at h2;have h2:=Option.some.inj h2;refine⟨leB_bytes v 8 _ (List.getElem_mem _),?_⟩;rw[Nat.zero_add,cells_of h,h2];simp[arrB,hi]
def chainN (prev:Int) (rec:List Int):Int:=digL (digL 14695981039346656037 (leB prev 8)) rec
theorem chain_ok (prev:Int) (p0:0≤prev) (p1:prev≤18446744073709551615) {v:Value} {bs:List Int} {w:World} (h:BytesAt w v bs):
  Calls Tryz.prog 72 #[.int .u64 prev,v] w fun e w'=>e=.returned (.int .u64 (chainN prev bs))∧Mod [] w w':=by
 have hH:=Lib.hid h;clear h;have h0:=Lib.hid (at_alloc w (.cells #[.int .u8 0,.int .u8 0,.int .u8 0,.int .u8 0,.int .u8 0,.int .u8 0,.int .u8 0,.int .u8 0] 216));have hm0:=Lib.hid ((Mod.refl [] w).alloc (.cells #[.int .u8 0,.int .u8 0,.int .u8 0,.int .u8 0,.int .u8 0,.int .u8 0,.int .u8 0,.int .u8 0] 216));go_enter Tryz.func72,Tryz.ntmps72;go_wp2_with fail;go_loopw [7] (fun i wr=>∃k:Nat,k≤8∧i=.int .i64 k∧Mod [] w wr∧wr.heap[w.heap.size]? =some (.cells (arrB prev k) 216 (0,0))) (fun i _=>8-(intOf i).toNat)
 case atStart=>exact⟨0,by omega,rfl,hm0.out,h0.out⟩
 case round=>
  obtain⟨k,hk,rfl,hm,hb⟩:=hrel;have hmH:=Lib.hid hm;have hbH:=Lib.hid hb;have hcb:=cells_of hb;have hfb:=frozen_of hb;clear hm hb;have hcase:k=0∨k=1∨k=2∨k=3∨k=4∨k=5∨k=6∨k=7∨k=8:=by omega
  rcases hcase with rfl|rfl|rfl|rfl|rfl|rfl|rfl|rfl|rfl
  ·simp only[show((0:Nat):Int)=0 from rfl];have hst:=Lib.hid (arr_set prev (k:=0) (by omega));go_wp2_with fail;go_roundw
   case rel=>exact⟨1,by omega,by go_num,hmH.out.setCell (.inr (Nat.le_refl _)) _,(at_setCell hbH.out).trans (by rw[←hst.out];first|(simp;done)|(simp;congr 2;omega))⟩
   case measure=>simp[intOf]
  ·simp only[show((1:Nat):Int)=1 from rfl];have hst:=Lib.hid (arr_set prev (k:=1) (by omega));go_wp2_with fail;go_roundw
   case rel=>exact⟨2,by omega,by go_num,hmH.out.setCell (.inr (Nat.le_refl _)) _,(at_setCell hbH.out).trans (by rw[←hst.out];first|(simp;done)|(simp;congr 2;omega))⟩
   case measure=>simp[intOf]
  ·simp only[show((2:Nat):Int)=2 from rfl];have hst:=Lib.hid (arr_set prev (k:=2) (by omega));go_wp2_with fail;go_roundw
   case rel=>exact⟨3,by omega,by go_num,hmH.out.setCell (.inr (Nat.le_refl _)) _,(at_setCell hbH.out).trans (by rw[←hst.out];first|(simp;done)|(simp;congr 2;omega))⟩
   case measure=>simp[intOf]
  ·simp only[show((3:Nat):Int)=3 from rfl];have hst:=Lib.hid (arr_set prev (k:=3) (by omega));go_wp2_with fail;go_roundw
   case rel=>exact⟨4,by omega,by go_num,hmH.out.setCell (.inr (Nat.le_refl _)) _,(at_setCell hbH.out).trans (by rw[←hst.out];first|(simp;done)|(simp;congr 2;omega))⟩
   case measure=>simp[intOf]
  ·simp only[show((4:Nat):Int)=4 from rfl];have hst:=Lib.hid (arr_set prev (k:=4) (by omega));go_wp2_with fail;go_roundw
   case rel=>exact⟨5,by omega,by go_num,hmH.out.setCell (.inr (Nat.le_refl _)) _,(at_setCell hbH.out).trans (by rw[←hst.out];first|(simp;done)|(simp;congr 2;omega))⟩
   case measure=>simp[intOf]
  ·simp only[show((5:Nat):Int)=5 from rfl];have hst:=Lib.hid (arr_set prev (k:=5) (by omega));go_wp2_with fail;go_roundw
   case rel=>exact⟨6,by omega,by go_num,hmH.out.setCell (.inr (Nat.le_refl _)) _,(at_setCell hbH.out).trans (by rw[←hst.out];first|(simp;done)|(simp;congr 2;omega))⟩
   case measure=>simp[intOf]
  ·simp only[show((6:Nat):Int)=6 from rfl];have hst:=Lib.hid (arr_set prev (k:=6) (by omega));go_wp2_with fail;go_roundw
   case rel=>exact⟨7,by omega,by go_num,hmH.out.setCell (.inr (Nat.le_refl _)) _,(at_setCell hbH.out).trans (by rw[←hst.out];first|(simp;done)|(simp;congr 2;omega))⟩
   case measure=>simp[intOf]
  ·simp only[show((7:Nat):Int)=7 from rfl];have hst:=Lib.hid (arr_set prev (k:=7) (by omega));go_wp2_with fail;go_roundw
   case rel=>exact⟨8,by omega,by go_num,hmH.out.setCell (.inr (Nat.le_refl _)) _,(at_setCell hbH.out).trans (by rw[←hst.out];first|(simp;done)|(simp;congr 2;omega))⟩
   case measure=>simp[intOf]
  ·simp only[show((8:Nat):Int)=8 from rfl];have hB:=Lib.hid (arr_bytes prev hbH.out);have hH2:=Lib.hid (hH.out.mod hmH.out);go_wp2_with fail;refine(digadd_ok hB.out _).mono ?_;rintro e w2 ⟨rfl,rfl⟩;go_wp2_with fail;refine(digadd_ok hH2.out _).mono ?_;rintro e w3 ⟨rfl,rfl⟩;go_wp2_with fail;go_ret;exact⟨rfl,hmH.out⟩
def SomeBytes (w:World) (n:Nat) (e:Ending) (w':World):Prop:=∃v bs,e=.returned v∧w'.ownsRow w.heap.size 5 1 v bs.length (bvals bs)∧(∀x∈bs,0≤x∧x≤255)∧bs.length≤n∧Mod [] w w'
theorem putb_ok {v:Value} {bs:List Int} {w:World} (h:BytesAt w v bs) (hl0:0<bs.length) (hl:bs.length≤1000) (hx:∀x∈bs,0≤x∧x≤255):
  Calls Tryz.prog 74 #[.slice none 0 0,v] w (SomeBytes w (bs.length+10)):=by
 obtain⟨i0,hi0,hz0,hz1,hz2⟩:=info_parts info_u8;have hln:=fun ty w=>h.len ty w
 have hH:=Lib.hid h;have hxH:=Lib.hid hx;have hput:=Lib.hid fun w=>put_ok (.slice none 0 0) [] (by simp) bs.length (by omega) w (.inl ⟨rfl,rfl⟩)
 have hle:=encN_len64 (n:=bs.length) (by omega);have hby:=encN_bytes64 (n:=bs.length) (by omega);obtain⟨E,hE⟩:∃E,encN bs.length=E:=⟨_,rfl⟩;rw[hE]at hle hby;simp only[hE,List.nil_append]at hput;have hbyH:=Lib.hid hby;clear h hx hE hby;obtain⟨sa,sl,sc,rfl⟩:∃a l c,v=.slice a l c:=by
  rcases hH.out with⟨rfl,_⟩|⟨_,_,_,rfl,_⟩<;>exact⟨_,_,_,rfl⟩
 go_enter Tryz.func74,Tryz.ntmps74;go_wp2_with fail;refine(hput.out _).mono ?_;rintro e w1 ⟨v1,rfl,hr1,hm1⟩;obtain⟨oa,ol,oc,rfl⟩:=rowForm hr1;have hr1H:=Lib.hid hr1;have hm1H:=Lib.hid hm1;obtain⟨n1,hn1⟩:∃n1,E.length=n1:=⟨_,rfl⟩;rw[hn1]at hle;have hn1H:=Lib.hid hn1;clear hr1 hm1 hput hn1;rcases hH.out with⟨hv,rfl⟩|⟨sb,so,cap,hv,g2,g3,g4⟩
 ·simp at hl0
 ·have hcs:=Lib.hid (bytes_cells (hv▸hH.out.mod hm1H.out));cases hv;have hr1n:=Lib.hid (show w1.ownsRow 0 5 1 (.slice oa ol oc) n1 (bvals E) by rw[←hn1H.out];exact row_base hr1H.out (Nat.zero_le _));have hb1:n1+bs.length≤maxLen:=by unfold maxLen;omega
  have hb2:(n1+bs.length)*1≤140737488355328:=by omega
  have hfl:=Lib.hid (show(bvals bs).length=bs.length*1 by rw[bvals_len];omega);clear g4;go_wp2_with (at_builtin;refine wpList_append_row _ rfl _ _ 57 rfl 5 i0 (.int .u8 0) 1 1 Tryz.underlying57 hi0 hz0 hz1 hz2 rfl (by decide) (.slice oa ol oc) n1 (bvals E) rfl hr1n.out ⟨sb,so,none⟩ bs.length sc (bvals bs) rfl hfl.out hcs.out (bvals_one bs) hb1 hb2 ?_;intro v' w2 hown hgrow hfr;have hownH:=Lib.hid hown;have hgrowH:=Lib.hid hgrow;have hfrH:=Lib.hid hfr;clear hown hgrow hfr);go_ret;refine⟨_,E++bs,rfl,?_,fun x hx=> ?_,?_,?_⟩
  ·have:=hownH.out;rw[show bvals (E++bs)=bvals E++bvals bs by simp[bvals],List.length_append,hn1H.out];refine row_all this fun g hg=> ?_
   rcases hfrH.out g hg with h|h
   ·exact(hr1H.out.lt g h).1
   ·have:=hm1H.out.size;omega
  ·rcases List.mem_append.1 hx with h|h
   ·exact hbyH.out x h
   ·exact hxH.out x h
  ·rw[List.length_append,hn1H.out];omega
  ·exact hm1H.out.grown hgrowH.out fun k hk=>.inr (hr1H.out.lt k hk).1
theorem make_bytes (n:Nat) (hn:n≤2000000) (w:World):
  ∃w',(Instr.makeSlice 57 (.int .i64 n) (.int .i64 n)).run Tryz.prog w=.ok (.slice (some ⟨w.heap.size,0,none⟩) n n) w'∧w'.ownsRow w.heap.size 5 1 (.slice (some ⟨w.heap.size,0,none⟩) n n) n (bvals (List.replicate n 0))∧Mod [] w w':=by
 obtain⟨i0,hi,hz0,hz1,hz2⟩:=info_parts info_u8;obtain⟨w',h1,h2,h3⟩:=run_makeSlice_full (P:=Tryz.prog) w w.heap.size 57 5 i0 (.int .u8 0) 1 Tryz.underlying57 hi hz0 hz1 .i64 .i64 n (by omega) (by rw[hz2];omega) (by unfold maxLen;omega) (Nat.le_refl _);have e:=made_flat (f:=fun x:Int=>[Value.int .u8 x]) (m:=1) (fun _=>rfl) (by omega) 0 (Value.int .u8 0).cells rfl n;rw[e]at h2;refine⟨w',h1,?_,(Mod.refl [] w).grown h3 (by simp)⟩;have e2:flat (fun x:Int=>[Value.int .u8 x]) (List.replicate n 0)=bvals (List.replicate n 0):=by unfold flat bvals;exact List.map_eq_flatMap.symm
 rw[←e2];exact h2
def DigPost (w:World) (e:Ending) (w':World):Prop:=∃v xs,e=.returned v∧w'.ownsRow w.heap.size 5 1 v 8 xs∧xs.length=8∧(∀u∈xs,u.oneCell'=true)∧Mod [] w w'
theorem digb_ok (d:Int) (d0:0≤d) (d1:d≤18446744073709551615) (w:World):Calls Tryz.prog 75 #[.int .u64 d] w (DigPost w):=by
 obtain⟨w1,h1,h2,h3⟩:=make_bytes 8 (by omega) w;have h2H:=Lib.hid h2;have h3H:=Lib.hid h3;have h1:(Instr.makeSlice 57 (.int .i64 8) (.int .i64 8)).run Tryz.prog w=.ok (.slice (some ⟨w.heap.size,0,none⟩) 8 8) w1:=h1;clear h2 h3;go_enter Tryz.func75,Tryz.ntmps75;go_wp2_with fail;go_loopw [8] (fun i wr=>∃k:Nat,k≤8∧i=.int .i64 k∧Mod [] w wr∧∃xs,wr.ownsRow w.heap.size 5 1 (.slice (some ⟨w.heap.size,0,none⟩) 8 8) 8 xs∧xs.length=8∧∀u∈xs,u.oneCell'=true) (fun i _=>8-(intOf i).toNat)
 case atStart=>exact⟨0,by omega,rfl,h3H.out,_,h2H.out,by simp[bvals],bvals_one _⟩
 case round=>
  obtain⟨k,hk,rfl,hm,xs,hr,hl,hx⟩:=hrel;have hmH:=Lib.hid hm;have hrH:=Lib.hid hr;have hlH:=Lib.hid hl;have h1H:=Lib.hid hx;have hgeH:=Lib.hid (Nat.le_refl w.heap.size);have hfb:=hr.frozenAt;have hcase:k=0∨k=1∨k=2∨k=3∨k=4∨k=5∨k=6∨k=7∨k=8:=by omega
  clear hm hr hl hx h1;rcases hcase with rfl|rfl|rfl|rfl|rfl|rfl|rfl|rfl|rfl
  ·simp only[show((0:Nat):Int)=0 from rfl];have hck:=(hrH.out.cellAt 0 (by omega)).trans (List.getElem?_eq_getElem (by rw[hlH.out];omega));go_wp2_with fail;go_roundw
   case rel=>exact⟨1,by omega,by go_num,hmH.out.setCell (.inr hgeH.out) _,_,(hrH.out.stored 0 _).1,by simp[hlH.out],fun u hu=>by rcases List.mem_or_eq_of_mem_set hu with h|rfl;exact h1H.out u h;rfl⟩
   case measure=>simp[intOf]
  ·simp only[show((1:Nat):Int)=1 from rfl];have hck:=(hrH.out.cellAt 1 (by omega)).trans (List.getElem?_eq_getElem (by rw[hlH.out];omega));go_wp2_with fail;go_roundw
   case rel=>exact⟨2,by omega,by go_num,hmH.out.setCell (.inr hgeH.out) _,_,(hrH.out.stored 1 _).1,by simp[hlH.out],fun u hu=>by rcases List.mem_or_eq_of_mem_set hu with h|rfl;exact h1H.out u h;rfl⟩
   case measure=>simp[intOf]
  ·simp only[show((2:Nat):Int)=2 from rfl];have hck:=(hrH.out.cellAt 2 (by omega)).trans (List.getElem?_eq_getElem (by rw[hlH.out];omega));go_wp2_with fail;go_roundw
   case rel=>exact⟨3,by omega,by go_num,hmH.out.setCell (.inr hgeH.out) _,_,(hrH.out.stored 2 _).1,by simp[hlH.out],fun u hu=>by rcases List.mem_or_eq_of_mem_set hu with h|rfl;exact h1H.out u h;rfl⟩
   case measure=>simp[intOf]
  ·simp only[show((3:Nat):Int)=3 from rfl];have hck:=(hrH.out.cellAt 3 (by omega)).trans (List.getElem?_eq_getElem (by rw[hlH.out];omega));go_wp2_with fail;go_roundw
   case rel=>exact⟨4,by omega,by go_num,hmH.out.setCell (.inr hgeH.out) _,_,(hrH.out.stored 3 _).1,by simp[hlH.out],fun u hu=>by rcases List.mem_or_eq_of_mem_set hu with h|rfl;exact h1H.out u h;rfl⟩
   case measure=>simp[intOf]
  ·simp only[show((4:Nat):Int)=4 from rfl];have hck:=(hrH.out.cellAt 4 (by omega)).trans (List.getElem?_eq_getElem (by rw[hlH.out];omega));go_wp2_with fail;go_roundw
   case rel=>exact⟨5,by omega,by go_num,hmH.out.setCell (.inr hgeH.out) _,_,(hrH.out.stored 4 _).1,by simp[hlH.out],fun u hu=>by rcases List.mem_or_eq_of_mem_set hu with h|rfl;exact h1H.out u h;rfl⟩
   case measure=>simp[intOf]
  ·simp only[show((5:Nat):Int)=5 from rfl];have hck:=(hrH.out.cellAt 5 (by omega)).trans (List.getElem?_eq_getElem (by rw[hlH.out];omega));go_wp2_with fail;go_roundw
   case rel=>exact⟨6,by omega,by go_num,hmH.out.setCell (.inr hgeH.out) _,_,(hrH.out.stored 5 _).1,by simp[hlH.out],fun u hu=>by rcases List.mem_or_eq_of_mem_set hu with h|rfl;exact h1H.out u h;rfl⟩
   case measure=>simp[intOf]
  ·simp only[show((6:Nat):Int)=6 from rfl];have hck:=(hrH.out.cellAt 6 (by omega)).trans (List.getElem?_eq_getElem (by rw[hlH.out];omega));go_wp2_with fail;go_roundw
   case rel=>exact⟨7,by omega,by go_num,hmH.out.setCell (.inr hgeH.out) _,_,(hrH.out.stored 6 _).1,by simp[hlH.out],fun u hu=>by rcases List.mem_or_eq_of_mem_set hu with h|rfl;exact h1H.out u h;rfl⟩
   case measure=>simp[intOf]
  ·simp only[show((7:Nat):Int)=7 from rfl];have hck:=(hrH.out.cellAt 7 (by omega)).trans (List.getElem?_eq_getElem (by rw[hlH.out];omega));go_wp2_with fail;go_roundw
   case rel=>exact⟨8,by omega,by go_num,hmH.out.setCell (.inr hgeH.out) _,_,(hrH.out.stored 7 _).1,by simp[hlH.out],fun u hu=>by rcases List.mem_or_eq_of_mem_set hu with h|rfl;exact h1H.out u h;rfl⟩
   case measure=>simp[intOf]
  ·simp only[show((8:Nat):Int)=8 from rfl];go_wp2_with fail;go_ret;exact⟨_,xs,rfl,hrH.out,hlH.out,h1H.out,hmH.out⟩
end Go.Proofs.YteidpgdfocjdbaaGreat
namespace Go
namespace Stg
structure Site (k:Nat) (w:World) (b:Nat) (cs:Array Value) (T:TypeId) (v:Value):Prop where
 sz:k<cs.size
 blk:w.heap[b]? =some (.cells (cs.setIfInBounds k v) T (0,0))
section
variable {k:Nat} {w w':World} {b:Nat} {cs:Array Value} {T:TypeId} {v:Value}
theorem Site.cell (h:Site k w b cs T v):w.cell? ⟨b,k,none⟩=some v:=by
 rw[cells_of h.blk];simp[h.sz]
theorem Site.other (h:Site k w b cs T v) {o:Nat} (ho:o≠k):w.cell? ⟨b,o,none⟩=cs[o]? :=by
 rw[cells_of h.blk,Array.getElem?_setIfInBounds_ne (Ne.symm ho)]
theorem Site.frozen (h:Site k w b cs T v):∀o,w.frozen? ⟨b,o,none⟩=false:=frozen_of h.blk
theorem Site.lt (h:Site k w b cs T v):b<w.heap.size:=lt_of h.blk
theorem Site.mod {S:List Nat} (h:Site k w b cs T v) (hm:Mod S w w') (hS:b∉S):Site k w' b cs T v:=⟨h.sz,hm.at h.blk hS⟩
theorem Site.put (h:Site k w b cs T v) (u:Value):Site k (w.setCell ⟨b,k,none⟩ u) b cs T u:=by
 refine⟨h.sz,?_⟩;have:=at_setCell (o:=k) (v:=u) h.blk;rw[Array.setIfInBounds_setIfInBounds]at this;exact this
theorem Site.of {xs:Array Value} {T:TypeId} (h:w.heap[b]? =some (.cells xs T (0,0))) (hk:k<xs.size):Site k w b xs T xs[k]:=by
 refine⟨hk,?_⟩;rw[h];congr 2;apply Array.ext
 ·simp
 ·intro i h1 h2;by_cases e:k=i
  ·subst e;simp
  ·rw[Array.getElem_setIfInBounds_ne (h:=e)]
end
end Stg
end Go
namespace Go.Proofs.YteidpgdfocjdbaaGreat
open Go Go.RowKit Go.Stg
def CntAt (w:World) (mo:Option Nat) (g:Int→Nat):Prop:=
 match mo with
 |none=>∀k,g k=0
 |some bm=>∃es c,w.heap[bm]? =some (.map es c)∧IKeys es.toList∧∀k,(mget k es.toList).getD (.int .i64 0)=.int .i64 (g k)
theorem CntAt.mod {S:List Nat} {w w':World} {mo:Option Nat} {g:Int→Nat} (h:CntAt w mo g) (hm:Mod S w w') (hS:∀x,mo=some x→x∉S):CntAt w' mo g:=by
 cases mo with
 |none=>exact h
 |some b=>exact let ⟨es,c,h1,h2,h3⟩:=h;⟨es,c,hm.at h1 (hS b rfl),h2,h3⟩
theorem CntAt.lt {w:World} {mo:Option Nat} {g:Int→Nat} (h:CntAt w mo g):∀x,mo=some x→x<w.heap.size:=by
 intro x hx;subst hx;obtain⟨es,c,h1,_⟩:=h;exact lt_of h1
theorem CntAt.look {w:World} {mo:Option Nat} {g:Int→Nat} (h:CntAt w mo g) (k:Int):
  (Instr.lookup 137 (.map mo) (.int .i64 k) false).run Tryz.prog w=.ok (.int .i64 (g k)) w:=by
 cases mo with
 |none=>rw[run_lookup_nil (z:=.int .i64 0) Tryz.underlying137 Tryz.underlying3 (fun w=>Tryz.zeroValue3 w),show g k=0 from h k];rfl
 |some b=>
  obtain⟨es,c,h1,h2,h3⟩:=h;rw[run_lookup_int (z:=.int .i64 0) Tryz.underlying137 Tryz.underlying3 (fun w=>Tryz.zeroValue3 w) h1 h2,h3]
def cntC (mo:Option Nat) (g:Int→Nat):Comp:=
 ⟨fun w f=>CntAt w mo g∧f=mo.toList,fun h hm hT=>⟨h.1.mod hm fun x hx=>hT x (by rw[h.2,hx];simp),h.2⟩,fun h x hx=>by rw[h.2,Option.mem_toList]at hx;exact h.1.lt x hx⟩
theorem Scene.cnt {F:List Nat} {W w:World} {cs:List Comp} (i:Nat) {mo:Option Nat} {g:Int→Nat} (h:Scene F W cs w) (hi:cs[i]? =some (cntC mo g)):CntAt w mo g:=
 let ⟨_,h1,_⟩:=h.part i hi;h1.1
def bump (g:Int→Nat) (p:Int):Int→Nat:=fun k=>if k=p then g k+1 else g k
def evCells (e:Ev):List Value:=[.int .i64 e.p,.int .i64 e.op,.int .u64 e.h,.int .u64 e.arg,.int .i64 e.err]
def digEv (evs:List Ev):Int:=evs.foldl (fun d e=>chainN d (encEv e)) 14695981039346656037
theorem digEv_snoc (evs:List Ev) (e:Ev):digEv (evs++[e])=chainN (digEv evs) (encEv e):=by simp[digEv]
def logP (lb:Nat) (cap:Int) (ev bv:Value) (last:Int) (rm mm:Option Nat) (nb:Nat) (xs:List Value) (evs:List Ev) (g m:Int→Nat):List Comp:=
 [blockC lb (.cells #[.int .i64 cap,ev,bv,.int .u64 last,.map rm,.map mm] 156 (0,0)),rowC ev evs.length 99 5 (flat evCells evs),rowC bv nb 5 1 xs,cntC rm g,cntC mm m]
def LogOk (evs:List Ev) (last:Int) (nb:Nat):Prop:=(0≤last∧last≤18446744073709551615)∧nb≤200*evs.length∧(evs≠ []→last=digEv evs)
def logOn (lb:Nat) (cap:Int) (evs:List Ev) (miss:List Int) (w:World) (f:List Nat):Prop:=∃ev bv last rm mm nb xs,LogOk evs last nb∧Hold (logP lb cap ev bv last rm mm nb xs evs (recs evs) (missN miss)) w f
def logC (lb:Nat) (cap:Int) (evs:List Ev) (miss:List Int):Comp:=
 ⟨logOn lb cap evs miss,fun⟨a,b,c,d,e,n,xs,h1,h2⟩ hm hT=>⟨a,b,c,d,e,n,xs,h1,h2.keep hm hT⟩,fun⟨_,_,_,_,_,_,_,_,h⟩=>h.lt⟩
theorem digL_range (bs:List Int):∀d:Int,0≤d→d≤18446744073709551615→0≤digL d bs∧digL d bs≤18446744073709551615:=by
 induction bs with
 |nil=>intro d h0 h1;exact⟨h0,h1⟩
 |cons b l ih=>
  intro d _ _;have:digL d (b::l)=digL (digB d b) l:=rfl;rw[this];refine ih _ ?_ ?_<;> ·unfold digB;simp[IntKind.wrap,IntKind.bits,IntKind.signed];omega
theorem lognew_ok (cap:Int) (h0:0≤cap) (h1:cap≤65536) (w:World):Calls Tryz.prog 25 #[.int .i64 cap] w fun e w'=>e=.returned (.tuple #[.pointer (some ⟨w.heap.size,0,none⟩),.int .i64 0])∧w'=w.alloc (.cells #[.int .i64 cap,.slice none 0 0,.slice none 0 0,.int .u64 0,.map none,.map none] 156):=by
 have z1:decide (cap<0)=false:=by rw[decide_eq_false_iff_not];omega
 have z2:decide (cap>65536)=false:=by rw[decide_eq_false_iff_not];omega
 go_enter Tryz.func25,Tryz.ntmps25;go_wp2;go_ret2;exact⟨rfl,rfl⟩
theorem log_fresh (cap:Int) {w:World} {b:Nat} (h:w.heap[b]? =some (.cells #[.int .i64 cap,.slice none 0 0,.slice none 0 0,.int .u64 0,.map none,.map none] 156 (0,0))):(logC b cap [] []).on w ([b]++([]++([]++([]++([]++[]))))):=by
 refine⟨_,_,0,none,none,0,[],⟨by omega,by simp,by simp⟩,[b],_,⟨h,rfl⟩,⟨[],_,⟨World.ownsRow_nil _ _ _ _,rfl⟩,⟨[],_,⟨World.ownsRow_nil _ _ _ _,rfl⟩,⟨[],_,⟨fun k=>rfl,rfl⟩,⟨[],[],⟨fun k=>rfl,rfl⟩,rfl,by simp,rfl⟩,by simp,rfl⟩,by simp,rfl⟩,by simp,rfl⟩,by simp,rfl⟩
theorem digest_at {lb:Nat} {cap last:Int} {ev bv mr mm:Value} {evs:List Ev} {w:World} (hb:w.heap[lb]? =some (.cells #[.int .i64 cap,ev,bv,.int .u64 last,mr,mm] 156 (0,0))) (hr:w.ownsRow 0 99 5 ev evs.length (flat evCells evs)) (hd:evs≠ []→last=digEv evs):
  Calls Tryz.prog 73 #[.pointer (some ⟨lb,0,none⟩)] w fun e w'=>e=.returned (.int .u64 (digEv evs))∧w'=w:=by
 have hcb:=cells_of hb;have hln:=fun ty w'=>row_len (ty:=ty) Tryz.underlying154 hr w'
 have hlen:Calls Tryz.prog 115 #[.pointer (some ⟨lb,0,none⟩)] w fun e w'=>e=.returned (.int .i64 evs.length)∧w'=w:=by
  obtain⟨ea,el,ec,rfl⟩:=rowForm hr;generalize evs.length=n at*;clear hr hd hb;go_enter Tryz.func115,Tryz.ntmps115;go_wp2;go_ret;exact⟨rfl,rfl⟩
 have hsum:=Lib.hid fun w=>digsum_ok (v:=.slice none 0 0) (bs:=[]) (w:=w) (.inl ⟨rfl,rfl⟩)
 have hlenH:=Lib.hid hlen
 cases evs with
 |nil=>
  have hde:digEv []=14695981039346656037:=rfl;rw[hde];clear hr hb hd hlen hln hde;go_enter Tryz.func73,Tryz.ntmps73;go_wp2_with fail;refine hlenH.out.mono ?_;rintro e w1 ⟨rfl,rfl⟩;go_wp2_with fail;refine(hsum.out _).mono ?_;rintro e w2 ⟨rfl,rfl⟩;go_wp2_with fail;go_ret;exact⟨rfl,rfl⟩
 |cons e0 l=>
  have hd:=hd (by simp);subst hd;have hz:(((e0::l).length:Int)==0)=false:=by simp;omega
  generalize(e0::l).length=n at*;generalize digEv (e0::l)=d at*;clear hr hb hlen hln;go_enter Tryz.func73,Tryz.ntmps73;go_wp2_with fail;refine hlenH.out.mono ?_;rintro e w1 ⟨rfl,rfl⟩;go_wp2_with fail;go_ret;exact⟨rfl,rfl⟩
section
variable {lb:Nat} {cap:Int} {evs:List Ev} {miss:List Int} {w:World} {f:List Nat} (h:(logC lb cap evs miss).on w f)
include h
theorem records_ok (p:Int):Calls Tryz.prog 113 #[.pointer (some ⟨lb,0,none⟩),.int .i64 p] w fun e w'=>e=.returned (.int .i64 (recs evs p))∧w'=w:=by
 obtain⟨ev,bv,last,rm,mm,nb,xs, -,hH⟩:=h;have hS:=Scene.start hH;have hcb:=cells_of (hS.block 0 rfl);have hlk:=(Scene.cnt 3 hS rfl).look p;generalize recs evs p=r at*;clear hH hS;go_enter Tryz.func113,Tryz.ntmps113;go_wp2;go_ret;exact⟨rfl,rfl⟩
theorem room_ok (p:Int):Calls Tryz.prog 70 #[.pointer (some ⟨lb,0,none⟩),.int .i64 p] w fun e w'=>e=.returned (.bool (decide ((recs evs p:Int)<cap)))∧Mod [] w w':=by
 have hr:=Lib.hid fun w' (hm:Mod [] w w')=>records_ok (Comp.keep _ h hm (by simp)) p
 obtain⟨ev,bv,last,rm,mm,nb,xs, -,hH⟩:=h;have hS:=Scene.start hH;have hb:=hS.block 0 rfl;have k1:=GW.cells (S:=[]) hb (by simp);generalize recs evs p=r at*;clear hH hS hb;go_enter Tryz.func70,Tryz.ntmps70;go_wp2_with fail;refine wp_region_pure (by kernel_rfl) (by kernel_rfl) ?_;refine stage_quiet 5 (by kernel_rfl) ?_;simp only[tA,tB,tC,tD];(repeat go_big_quiet_step (fail));refine wpQuiet_nil ?_;refine stage_pure 113 _ (.int .i64 r) rfl Tryz.call113 rfl rfl (fun w' hm=>(hr.out w' hm).mono fun e w'' ⟨he,hw⟩=>⟨he,hw▸Mod.refl [] _⟩) ?_;simp only[Act.put,sA,sB,sC];refine stage_quiet 7 (by kernel_rfl) ?_;simp only[tA,tB,tC,tD];(repeat go_big_quiet_step (fail));refine wpQuiet_nil ?_;refine stage_nil fun w2 hm2=> ?_
 clear k1;go_wp2_with fail;go_ret;exact⟨rfl,hm2⟩
end
end Go.Proofs.YteidpgdfocjdbaaGreat
