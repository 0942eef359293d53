/- Joined contracts. No conditions. -/
import Derived.Test.YteidpgdfocjdbaaGreatProg
import Derived.Test.YteidpgdfocjdbaaGreatCS
import Derived.Test.YteidpgdfocjdbaaGreatC09
import Derived.Test.YteidpgdfocjdbaaGreatC18
set_option maxRecDepth 20000
namespace Go.Proofs.YteidpgdfocjdbaaGreat
open Go Go.RowKit Go.Stg
open Ty (FieldsAt fields_get)
def properB (e:Ext):Bool:=decide (0≤e.1)&&(decide (0<e.2)&&(decide (e.2≤1048576)&&decide (e.1≤1048576-e.2)))
theorem properB_iff (e:Ext):properB e=true↔proper e:=by unfold properB proper;simp;omega
theorem proper_any (o l:Int) (w:World):Calls Tryz.prog 143 #[.agg #[.int .i64 o,.int .i64 l]] w fun e w'=>e=.returned (.bool (properB (o,l)))∧Mod [] w w':=by
 go_enter Tryz.func143,Tryz.ntmps143;go_wp2
 all_goals go_ret
 all_goals refine⟨?_,(Mod.refl _ _).alloc _⟩
 all_goals (first|(simp_all [properB];done)|(simp[properB];intros;omega))
theorem end_any (o l:Int) (h0: -1000000000000≤o+l) (h1:o+l≤1000000000000) (w:World):Calls Tryz.prog 133 #[.agg #[.int .i64 o,.int .i64 l]] w fun e w'=>e=.returned (.int .i64 (o+l))∧Mod [] w w':=by
 go_enter Tryz.func133,Tryz.ntmps133;go_wp2;go_ret;exact⟨rfl,(Mod.refl _ _).alloc _⟩
theorem end_of {e:Ext} (h:proper e) (w:World):Calls Tryz.prog 133 #[.agg #[.int .i64 e.1,.int .i64 e.2]] w fun r w'=>r=.returned (.int .i64 (e.1+e.2))∧Mod [] w w':=by
 unfold proper at h;exact end_any e.1 e.2 (by omega) (by omega) w
theorem exts_len {w0:World} {v:Value} {s:List Ext} (h:FieldsAt w0 v s) (ty:TypeId) (w:World):(Builtin.len_ #[200] ty #[v]).run Tryz.prog w=.ok (.int .i64 s.length) w:=by
 rcases h with⟨rfl,rfl⟩|⟨sb,so,cap,rfl,_⟩<;>simp[Builtin.len_,run_underlying Tryz.underlying200,goInt]
theorem exts_slice {w:World} {v:Value} {s:List Ext} (h:FieldsAt w v s):∃a m c,v=.slice a m c:=by
 rcases h with⟨rfl,_⟩|⟨sb,so,cap,rfl,_⟩<;>exact⟨_,_,_,rfl⟩
theorem valid_yes {v:Value} {s:List Ext} {w:World} (h:FieldsAt w v s) (hs:VS s):Calls Tryz.prog 132 #[v] w fun e w'=>e=.returned (.bool true)∧Mod [] w w':=by
 have hln:=fun ty w=>exts_len h ty w
 have hsm:=h.small;have hH:=Lib.hid h;have hsH:=Lib.hid hs;clear h hs;go_enter Tryz.func132,Tryz.ntmps132;go_wp2_with fail;go_loopw [7] (fun i wr=>∃k:Nat,k≤s.length∧i=.int .i64 k∧Mod [] w wr) (fun i _=>s.length-(intOf i).toNat)
 case atStart=>exact⟨0,by omega,rfl,Mod.refl _ _⟩
 case round=>
  obtain⟨k,hk,rfl,hm⟩:=hrel;by_cases hlt:k<s.length
  ·have hg:=fields_get (hH.out.mod hm) hlt;obtain⟨sb,so,cap,rfl,hb,c0,c1⟩:=hg;have hp:=hsH.out.1 s[k] (List.getElem_mem hlt);have hpB:=(properB_iff s[k]).2 hp;have hm2:=hm.alloc (.cells #[.int .i64 s[k].1,.int .i64 s[k].2] 56);have hx:=at_alloc wr (.cells #[.int .i64 s[k].1,.int .i64 s[k].2] 56);have hpre:0<k→∃c d:Int,(wr.alloc (.cells #[.int .i64 s[k].1,.int .i64 s[k].2] 56)).cell? ⟨sb,so+(k-1)*2,none⟩=some (.int .i64 c)∧(wr.alloc (.cells #[.int .i64 s[k].1,.int .i64 s[k].2] 56)).cell? ⟨sb,so+(k-1)*2+1,none⟩=some (.int .i64 d)∧proper (c,d)∧c+d<s[k].1:=fun h0=>by
    obtain⟨sb',so',cap',e,_,d0,d1⟩:=fields_get (hH.out.mod hm2) (show k-1<s.length by omega);cases e;exact⟨_,_,d0,d1,hsH.out.1 _ (List.getElem_mem _),List.pairwise_iff_getElem.1 hsH.out.2 (k-1) k (by omega) hlt (by omega)⟩
   have hbl:sb<(wr.alloc (.cells #[.int .i64 s[k].1,.int .i64 s[k].2] 56)).heap.size:=by simp;omega
   generalize s[k]=x at*;obtain⟨xo,xl⟩:=x;simp only at c0 c1 hp hpre hx hm2 hpB hbl;have hmH:=Lib.hid hm2;have hxH:=Lib.hid hx;have hpreH:=Lib.hid hpre;have hblH:=Lib.hid hbl;clear hm hm2 hx hpre hbl hb;go_wp2_with fail;clear c0 c1;generalize wr.heap.size=bx at*;generalize wr.alloc (.cells #[.int .i64 xo,.int .i64 xl] 56)=W2 at*;have k1:=GW.cells (S:=[]) hxH.out (by simp);by_cases h0:k=0
   ·subst h0;refine wp_region_pure (by kernel_rfl) (by kernel_rfl) ?_;refine stage_quiet 1 (by kernel_rfl) ?_;simp only[tA,tB,tC,tD];(repeat go_big_quiet_step (fail));refine wpQuiet_nil ?_;refine stage_pure 143 _ (.bool true) rfl Tryz.call143 rfl rfl (fun w' _=>(proper_any xo xl w').mono fun e w'' ⟨he,hm⟩=>⟨by rw[he,hpB],hm⟩) ?_;simp only[Act.put,sA,sB,sC];refine stage_quiet 12 (by kernel_rfl) ?_;simp only[tA,tB,tC,tD];(repeat go_big_quiet_step (fail));refine wpQuiet_nil ?_;refine stage_skip rfl ?_;simp only[Act.put,sA,sB,sC];refine stage_quiet 3 (by kernel_rfl) ?_;simp only[tA,tB,tC,tD];(repeat go_big_quiet_step (fail));refine wpQuiet_nil ?_;refine stage_nil fun w5 hm5=> ?_
    have hm6:=Lib.hid (hmH.out.nil_then hm5);clear hm5;go_wp2_with fail;go_roundw
    case rel=>exact⟨_,hlt,by go_num,hm6.out⟩
    case measure=>simp[intOf];omega
   ·obtain⟨c,d,d0,d1,hpc,hcd⟩:=hpreH.out (by omega);have kd0:=GW.cell1 (S:=[]) d0 hblH.out (by simp);have kd1:=GW.cell1 (S:=[]) d1 hblH.out (by simp);have hk1:(k:Int)-1=((k-1:Nat):Int):=by omega
    have hkl:k-1<s.length:=by omega
    have hgt:decide (0<k)=true:=by rw[decide_eq_true_eq];omega
    have hcdB:decide (xo≤c+d)=false:=by rw[decide_eq_false_iff_not];omega
    clear d0 d1;refine wp_region_pure (by kernel_rfl) (by kernel_rfl) ?_;refine stage_quiet 1 (by kernel_rfl) ?_;simp only[tA,tB,tC,tD];(repeat go_big_quiet_step (fail));refine wpQuiet_nil ?_;refine stage_pure 143 _ (.bool true) rfl Tryz.call143 rfl rfl (fun w' _=>(proper_any xo xl w').mono fun e w'' ⟨he,hm⟩=>⟨by rw[he,hpB],hm⟩) ?_;simp only[Act.put,sA,sB,sC];refine stage_quiet 12 (by kernel_rfl) ?_;simp only[tA,tB,tC,tD];(repeat go_big_quiet_step (fail));refine wpQuiet_nil ?_;refine stage_pure 133 _ (.int .i64 (c+d)) rfl Tryz.call133 rfl rfl (fun w' _=>end_of (e:=(c,d)) hpc w') ?_;simp only[Act.put,sA,sB,sC];refine stage_quiet 3 (by kernel_rfl) ?_;simp only[tA,tB,tC,tD];(repeat go_big_quiet_step (fail));refine wpQuiet_nil ?_;refine stage_nil fun w5 hm5=> ?_
    have hm6:=Lib.hid (hmH.out.nil_then hm5);clear hm5;go_wp2_with fail;go_roundw
    case rel=>exact⟨_,hlt,by go_num,hm6.out⟩
    case measure=>simp[intOf];omega
  ·obtain rfl:k=s.length:=by omega
   have hmH:=Lib.hid hm;clear hm;go_wp2_with fail;go_ret;exact⟨rfl,hmH.out⟩
theorem search_ok (n:Nat) (hn:n≤1000000) (g:Nat) (lb:Array Value) (q:Nat→Bool) (w:World) (eg:∀args w,(callFunc g args).run Tryz.prog w=.ok (.enter g args) w)
  (hq:∀i,i<n→∀W,Mod [] w W→Calls Tryz.prog g (#[.int .i64 i]++lb) W fun e W'=>e=.returned (.bool (q i))∧Mod [] W W') (mono:∀i j,i≤j→j<n→q i=true→q j=true):
  Calls Tryz.prog 152 #[.int .i64 n,.func (.func g) #[] lb] w fun e w'=>∃m:Nat,e=.returned (.int .i64 m)∧m≤n∧(∀i,i<m→q i=false)∧(∀i,m≤i→i<n→q i=true)∧Mod [] w w':=by
 have hqH:=Lib.hid hq;have hmo:=Lib.hid mono;clear hq mono;go_enter Tryz.func152,Tryz.ntmps152;go_wp2_with fail;go_loopw [5,6] (fun iv jv wr=>∃i j:Nat,i≤j∧j≤n∧iv=.int .i64 i∧jv=.int .i64 j∧(∀k,k<i→q k=false)∧(∀k,j≤k→k<n→q k=true)∧Mod [] w wr) (fun iv jv _=>(intOf jv-intOf iv).toNat)
 case atStart=>exact⟨0,n,by omega,by omega,rfl,rfl,by simp,fun k h1 h2=>by omega,Mod.refl _ _⟩
 case round=>
  obtain⟨i,j,hij,hj,rfl,rfl,h1,h2,hm⟩:=hrel;have h1H:=Lib.hid h1;have h2H:=Lib.hid h2;have hmH:=Lib.hid hm;clear h1 h2 hm;by_cases hlt:i<j
  ·obtain⟨t,ht⟩:∃t,(i+j)/2=t:=⟨_,rfl⟩;have he:((i:Int)+j)/2=(t:Int):=by omega
   have htr:i≤t∧t<j:=by omega
   have hlt':decide ((i:Int)<j)=true:=by rw[decide_eq_true_eq];omega
   have heH:=Lib.hid he;clear he ht;go_wp2_with fail;rw[heH.out];refine(hqH.out t (by omega) wr hmH.out).mono ?_;rintro e w1 ⟨rfl,hm1⟩;have hm2:=Lib.hid (hmH.out.nil_then hm1);obtain⟨b,hb⟩:∃b,q t=b:=⟨_,rfl⟩;rw[hb];have hbH:=Lib.hid hb;clear hm1 hb;cases b
   ·go_wp2_with fail;go_roundw
    case rel=>exact⟨t+1,j,by omega,hj,by go_num,rfl,fun k hk=>Bool.eq_false_iff.2 fun hq=>absurd ((hmo.out k t (by omega) (by omega) hq).symm.trans hbH.out) (by simp),h2H.out,hm2.out⟩
    case measure=>simp[intOf];omega
   ·go_wp2_with fail;go_roundw
    case rel=>exact⟨i,t,by omega,by omega,rfl,by go_num,h1H.out,fun k h1 h2=>hmo.out t k h1 h2 hbH.out,hm2.out⟩
    case measure=>simp[intOf];omega
  ·obtain rfl:i=j:=by omega
   go_wp2_with fail;go_ret;exact⟨i,rfl,hj,h1H.out,h2H.out,hmH.out⟩
theorem afterC_ok {v:Value} {s:List Ext} {off:Int} {sb ob:Nat} {w:World} (hv:FieldsAt w v s) (hs:VS s) (h1:w.heap[sb]? =some (.cells #[v] 200 (0,0))) (h2:w.heap[ob]? =some (.cells #[.int .i64 off] 3 (0,0))) (i:Nat) (hi:i<s.length) (W:World) (hW:Mod [] w W):
  Calls Tryz.prog 153 (#[.int .i64 i]++#[.pointer (some ⟨sb,0,none⟩),.pointer (some ⟨ob,0,none⟩)]) W fun e W'=>e=.returned (.bool (decide (off<s[i].1+s[i].2)))∧Mod [] W W':=by
 obtain⟨xb,xo,cap,rfl,hb,c0,c1⟩:=fields_get (hv.mod hW) hi;have hp:=hs.1 s[i] (List.getElem_mem hi);have k1:=GW.cells (S:=[]) (hW.at h1 (by simp)) (by simp);have k2:=GW.cells (S:=[]) (hW.at h2 (by simp)) (by simp);have k3:=GW.cell1 (S:=[]) c0 hb (by simp);have k4:=GW.cell1 (S:=[]) c1 hb (by simp);generalize s[i]=x at*;obtain⟨eo,el⟩:=x;have hbd: -1000000000000≤eo+el∧eo+el≤1000000000000:=by unfold proper at hp;simp only at hp;omega
 clear hv hs h1 h2 hb c0 c1 hp;show Calls Tryz.prog 153 #[.int .i64 i,.pointer (some ⟨sb,0,none⟩),.pointer (some ⟨ob,0,none⟩)] W _;go_enter Tryz.func153,Tryz.ntmps153;go_wp2_with fail;refine wp_region_pure (by kernel_rfl) (by kernel_rfl) ?_;refine stage_quiet 4 (by kernel_rfl) ?_;simp only[tA,tB,tC,tD];(repeat go_big_quiet_step (fail));refine wpQuiet_nil ?_;refine stage_pure 133 _ (.int .i64 (eo+el)) rfl Tryz.call133 rfl rfl (fun w' _=>end_any eo el hbd.1 hbd.2 w') ?_;simp only[Act.put,sA,sB,sC];refine stage_quiet 3 (by kernel_rfl) ?_;simp only[tA,tB,tC,tD];(repeat go_big_quiet_step (fail));refine wpQuiet_nil ?_;refine stage_nil fun w5 hm5=> ?_
 go_wp2_with fail;go_ret;exact⟨rfl,hm5⟩
theorem after_ok {v:Value} {s:List Ext} {w:World} (h:FieldsAt w v s) (hs:VS s) (hl:s.length≤1000000) (off:Int):
  Calls Tryz.prog 144 #[v,.int .i64 off] w fun e w'=>∃m:Nat,e=.returned (.int .i64 m)∧m≤s.length∧(∀i (hi:i<s.length),i<m→s[i].1+s[i].2≤off)∧(∀i (hi:i<s.length),m≤i→off<s[i].1+s[i].2)∧Mod [] w w':=by
 obtain⟨va,vm,vc,hve⟩:=exts_slice h;subst hve;have hln:=fun ty w=>exts_len h ty w
 have hm0:Mod [] w ((w.alloc (.cells #[.slice va vm vc] 200)).alloc (.cells #[.int .i64 off] 3)):=((Mod.refl [] w).alloc _).alloc _;have z1:(w.alloc (.cells #[.slice va vm vc] 200)).heap.size=w.heap.size+1:=by simp
 have b0:=at_alloc_old (o:=.cells #[.int .i64 off] 3) (at_alloc w (.cells #[.slice va vm vc] 200));have b1:=at_alloc (w.alloc (.cells #[.slice va vm vc] 200)) (.cells #[.int .i64 off] 3);rw[z1]at b1;have hS:=search_ok s.length hl 153 #[.pointer (some ⟨w.heap.size,0,none⟩),.pointer (some ⟨w.heap.size+1,0,none⟩)] (fun i=>if h:i<s.length then decide (off<s[i].1+s[i].2)else true) _ Tryz.call153
  (fun i hi W hW=>by
   have:=afterC_ok (h.mod hm0) hs b0 b1 i hi W hW;rw[dif_pos hi];exact this)
  (fun i j hij hj hq=>by
   have hi:i<s.length:=by omega
   rw[dif_pos hi,decide_eq_true_eq]at hq;rw[dif_pos hj,decide_eq_true_eq];by_cases e:i=j
   ·subst e;exact hq
   ·have h1:=List.pairwise_iff_getElem.1 hs.2 i j hi hj (by omega);have h2:=hs.1 _ (List.getElem_mem hj);unfold proper at h2;omega)
 have hSH:=Lib.hid hS;have hmH:=Lib.hid hm0;have hcs:=cells_of b0;clear hS hm0 z1 b0 b1;go_enter Tryz.func144,Tryz.ntmps144;go_wp2_with fail;refine hSH.out.mono ?_;rintro e w1 ⟨m,rfl,hm,k1,k2,hm1⟩;have k1H:=Lib.hid k1;have k2H:=Lib.hid k2;have hm2:=Lib.hid (hmH.out.nil_then hm1);clear k1 k2 hm1 hSH hcs;go_wp2_with fail;go_ret;refine⟨m,rfl,hm,fun i hi hlt=> ?_,fun i hi hge=> ?_,hm2.out⟩
 ·have:=k1H.out i hlt;rw[dif_pos hi,decide_eq_false_iff_not]at this;omega
 ·have:=k2H.out i hge hi;rw[dif_pos hi,decide_eq_true_eq]at this;exact this
end Go.Proofs.YteidpgdfocjdbaaGreat
