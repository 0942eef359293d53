/- Joined contracts. No conditions. -/
import Derived.Test.YteidpgdfocjdbaaGreatCS
import Derived.Test.YteidpgdfocjdbaaGreatC33
import Derived.Test.YteidpgdfocjdbaaGreatC34
import Derived.Test.YteidpgdfocjdbaaGreatC35
set_option maxHeartbeats 8000000
set_option maxRecDepth 20000
namespace Go.Proofs.YteidpgdfocjdbaaGreat
open Go Go.RowKit Go.Stg
theorem fieldE_zero {c:HC} (hc:c.Ok) {k:Nat} {s:HS} (hI:HInv c k s) {p o acc i:Int} (h:fieldE s p o acc i=0):accD s p o acc=0∧Ty.TyOk (tyH s o)∧Ty.placeE (tyH s o).1 (tyH s o).2 i=0∧(placeI (tyH s o) i).2.2≠6:=by
 unfold fieldE at h;split at h
 ·rename_i h';exact absurd h h'
 ·rename_i h1;have hE:accD s p o acc=0:=Classical.byContradiction h1;split at h
  ·rename_i h';exact absurd h h'
  ·rename_i h2;split at h
   ·cases h
   ·rename_i h3;obtain⟨j,hj,hjn,hlv,hent,_⟩:=res_live hI (acc_res hE);have htr:=(hI.ent _ (liveE_mem hjn hlv)).2.1;rw[←hent]at htr;exact⟨hE,HInv.tagIn hc hI htr,Classical.byContradiction h2,h3⟩
theorem fieldE_range {c:HC} (hc:c.Ok) {k:Nat} {s:HS} (hI:HInv c k s) (p o acc i:Int):0≤fieldE s p o acc i∧fieldE s p o acc i≤29:=by
 have h1:=accD_range hI p o acc;unfold fieldE;split
 ·exact h1
 ·rename_i h2;obtain⟨j,hj,hjn,hlv,hent,_⟩:=res_live hI (acc_res (Classical.byContradiction h2));have htr:=(hI.ent _ (liveE_mem hjn hlv)).2.1;rw[←hent]at htr;have he:Ty.errT (tyH s o).1 (tyH s o).2=0:=HInv.tagIn hc hI htr;have hp:Ty.placeE (tyH s o).1 (tyH s o).2 i=0∨Ty.placeE (tyH s o).1 (tyH s o).2 i=6:=by
   unfold Ty.placeE;rw[if_pos he];split
   ·exact .inl rfl
   ·exact .inr rfl
  split
  ·omega
  ·split<;>omega
theorem ob_at {c:HC} {k:Nat} {s:HS} (hI:HInv c k s) {o:Int} (h:Tb.resE s.T o=0):∃(j xo xl:Nat),Tb.hSlot o=j∧j<c.n∧(Tb.slotN s.T.g.S j).2=true∧entH s o=Tb.entN s.T.E j∧(entH s o).off=xo∧(entH s o).len=xl∧bytesH s o=memH s j∧(memH s j).length≤xl∧((memH s j).length:Int)=sizeH s o∧((xo:Int),(xl:Int))∈usedH c s∧(((xo:Int),(xl:Int)),memH s j)∈obs c s:=by
 obtain⟨j,hj,hjn,hlv,hent,hho⟩:=res_live hI h;obtain⟨xo,xl,ho,hl,hl0,hml⟩:=live_ext hI hjn hlv;have hm:=obs_mem hjn hlv;have hu:=List.mem_map_of_mem (f:=(·.1)) hm;rw[obs_used]at hu;unfold extE at hm hu;rw[ho,hl]at hm hu;refine⟨j,xo,xl,hj,hjn,hlv,hent,by rw[hent];exact ho,by rw[hent];exact hl,by unfold bytesH;rw[hj,Int.toNat_natCast],hml,?_,hu,hm⟩;unfold sizeH;rw[hent];exact hI.mem j hjn hlv
theorem set_c {F:List Nat} {W w:World} {cs:List Comp} {a:HA} {c:HC} {k:Nat} {s:HS} (hc:c.Ok) (hI:HInv c k s) (hk:k≤1000) {p o i v:Int} (o0:0≤o) (o1:o≤18446744073709551615) (v0:0≤v) (v1:v≤18446744073709551615) {e0:Comp} {bo bp bh bi bv:Nat}
  (hS:Scene F W (hpA a c s::e0::blockC bv (.cells #[.int .u64 v] 49 (0,0))::blockC bi (.cells #[.int .i64 i] 3 (0,0))::blockC bo (.cells #[.int .u64 o] 50 (0,0))::blockC bp (.cells #[.int .i64 p] 3 (0,0))::blockC bh (.cells #[.pointer (some ⟨a.hb,0,none⟩)] 27 (0,0))::cs) w):
  Calls Tryz.prog 49 #[.pointer (some ⟨bh,0,none⟩),.pointer (some ⟨bp,0,none⟩),.pointer (some ⟨bo,0,none⟩),.pointer (some ⟨bi,0,none⟩),.pointer (some ⟨bv,0,none⟩)] w fun e w'=>e=.returned (.int .i64 (setD s p o i v).1)∧Scene F W (hpA a c (setD s p o i v).2::e0::blockC bv (.cells #[.int .u64 v] 49 (0,0))::blockC bi (.cells #[.int .i64 i] 3 (0,0))::blockC bo (.cells #[.int .u64 o] 50 (0,0))::blockC bp (.cells #[.int .i64 p] 3 (0,0))::blockC bh (.cells #[.pointer (some ⟨a.hb,0,none⟩)] 27 (0,0))::cs) w':=by
 obtain⟨B,hB,hS0⟩:=hp_open hS;have hfi:=Lib.hid (field_ok hc hI hk hS0 p o 2 i o0 o1);have c1:=cells_of (hS0.block 10 rfl);have c2:=cells_of (hS0.block 11 rfl);have c3:=cells_of (hS0.block 12 rfl);have c4:=cells_of (hS0.block 13 rfl);have hS1:=Lib.hid hS0;have hBH:=Lib.hid hB;by_cases hE:fieldE s p o 2 i=0
 ·obtain⟨hacc,hty,hpe,hk6⟩:=fieldE_zero hc hI hE;obtain⟨off,n,hpo,hpn,hwo,hpfit⟩:=place_in hty hpe hk6;obtain⟨j,xo,xl,hj,hjn,hlv,hent,hxo,hxl,hby,hmx,hms,hus,hob⟩:=ob_at hI (acc_res hacc);have hms':((memH s j).length:Int)=Ty.sizeT (tyH s o).1 (tyH s o).2:=hms;have hst:=Lib.hid fun w' f' (h':(arC a.ar c.size (usedH c s) B).on w' f')=>arstore_ok h' hus off n (by omega) hwo v v0 v1
  have hEH:=Lib.hid hE;have hsd:setD s p o i v=if fitN v n=false then(9,s)else(0,putD s o off (leB v n)):=by
   unfold setD;rw[if_neg (by simp[hE]),hpo,hpn];unfold fitW fitN;simp only[Int.toNat_natCast];have e:decide ((8:Int)≤n)=decide (8≤n):=by simp;omega
   rw[e]
  have hput:=inv_put hI (acc_res hacc) hj (off:=off) (by omega) (b:=leB v n) (by rw[leB_len];omega) (leB_bytes v n);have hsdH:=Lib.hid hsd;have hputH:=Lib.hid hput;have hIH:=Lib.hid hI;have hxoH:=Lib.hid hxo;have hxlH:=Lib.hid hxl;have hentH:=Lib.hid hent;have hmsH:=Lib.hid (And.intro hmx (show off+n≤(memH s j).length by omega));have hpoH:=Lib.hid (And.intro hpo hpn);clear hS hS0 hB hE hacc hty hpe hk6 hpo hpn hpfit hj hlv hent hxo hxl hby hmx hms hms' hus hob hsd hput;go_enter Tryz.func49,Tryz.ntmps49;go_wp2_with fail;refine hfi.out.mono ?_;rintro e w1 ⟨xh,xw,xt,xf,xn,p1,p2,p3,rfl,hm1,hz⟩;obtain⟨hz1,hz2⟩:=hz hEH.out;have hxf:xf=xo:=by rw[←hxoH.out,hz1]
  have hxn:xn=xl:=by rw[←hxlH.out,hz1]
  have hp1:p1=off:=by rw[←hpoH.out.1,hz2]
  have hp2:p2=n:=by rw[←hpoH.out.2,hz2]
  subst hxf hxn hp1 hp2;rw[hEH.out];have hS2:=(((hS1.out.then hm1).alloc (.cells #[.int .u64 xh,.int .i64 xw,.int .i64 xt,.int .i64 xo,.int .i64 xl] 119)).behind.alloc (.cells #[.int .i64 off,.int .i64 n,.int .i64 p3] 121)).behind;rw[size_alloc]at hS2;have hS2:=Lib.hid hS2;have hz1H:=Lib.hid hz1;clear hm1 hS1 hz hz1 hz2 hfi c1 c2 c3 c4 hxoH hxlH hpoH;go_wp2_with fail;generalize w1.heap.size=bx at*;generalize(w1.alloc (.cells #[.int .u64 xh,.int .i64 xw,.int .i64 xt,.int .i64 xo,.int .i64 xl] 119)).alloc (.cells #[.int .i64 off,.int .i64 n,.int .i64 p3] 121)=W1 at*;obtain⟨fa,hl,hput,hne⟩:=hS2.out.takePart 1 rfl;have k1:=GW.cells (S:=fa) (hS2.out.block 0 rfl) (hne 0 _ _ rfl);have k2:=GW.cells (S:=fa) (hS2.out.block 8 rfl) (hne 7 _ _ rfl);have k3:=GW.cells (S:=fa) (hS2.out.block 9 rfl) (hne 8 _ _ rfl);have k4:=GW.cells (S:=fa) (hS2.out.block 11 rfl) (hne 10 _ _ rfl);have k5:=GW.cells (S:=fa) (hS2.out.block 15 rfl) (hne 14 _ _ rfl);have hlH:=Lib.hid fun w' hm=>hst.out w' fa (hl w' hm)
  have hpuH:=Lib.hid hput;clear hl hput hne hS2 hst;refine wp_region_part fa (by kernel_rfl) (by kernel_rfl) ?_;refine stage_quiet 11 (by kernel_rfl) ?_;simp only[tA,tB,tC,tD];(repeat go_big_quiet_step (fail));refine wpQuiet_nil ?_;refine stage_takes 51 #[.pointer (some ⟨a.ar,0,none⟩),.agg #[.int .i64 xo,.int .i64 xl],.int .i64 off,.int .i64 n,.int .u64 v] (.int .i64 (storeE n v)) rfl Tryz.call51 rfl rfl hlH.out ?_;simp only[Act.put,sA,sB,sC];refine stage_quiet 1 (by kernel_rfl) ?_;simp only[tA,tB,tC,tD];(repeat go_big_quiet_step (fail));refine wpQuiet_nil ?_;refine stage_nil fun w2 hw2=> ?_
  have hS3:=Lib.hid (((hpuH.out w2 _ hw2).erase 8).erase 8);clear k1 k2 k3 k4 k5 hlH hpuH hw2;go_wp2_with fail;go_ret;rw[hsdH.out];have hS4:=hS3.out
  cases hf:fitN v n with
  |false=>
   rw[show storeN B (xo+off) n v=B by unfold storeN;rw[hf];rfl]at hS4;rw[show storeE n v=9 by unfold storeE;rw[hf];rfl];exact⟨rfl,hp_shut hBH.out hS4⟩
  |true=>
   rw[show storeN B (xo+off) n v=overlay B (xo+off) (leB v n) by unfold storeN;rw[hf];rfl]at hS4;rw[show storeE n v=0 by unfold storeE;rw[hf];rfl];obtain⟨g1,⟨A,C,g2,g3⟩,g4,g5⟩:=hputH.out;refine⟨rfl,hp_close (s':=putD s o off (leB v n)) g5.symm (fun q=>by rw[g4]) ?_ hS4⟩;have hu:=hIH.out.uok;rw[←obs_used,g2]at hu;have hA:=hBH.out;rw[g2]at hA;rw[g3];have hxe:extE (Tb.entN s.T.E j)=((xo:Int),(xl:Int)):=by unfold extE;rw[←hentH.out];rw[hz1H.out]
   have:=hA.write hu (p:=off) (b:=leB v n) (by rw[leB_len];exact hmsH.out.2) (by rw[hxe];simp only;have:=hmsH.out.1;omega) (leB_bytes v n);rw[hxe]at this⊢;simpa using this
 ·have hfd:setD s p o i v=(fieldE s p o 2 i,s):=by unfold setD;rw[if_pos hE]
  rw[hfd];generalize hEg:fieldE s p o 2 i=E at*;have hne:(E != 0)=true:=by simpa using hE
  have hEgH:=Lib.hid hEg;clear hS hS0 hB hfd hE hEg;go_enter Tryz.func49,Tryz.ntmps49;go_wp2_with fail;refine hfi.out.mono ?_;rintro e w1 ⟨xh,xw,xt,xf,xn,p1,p2,p3,rfl,hm1,_⟩;rw[hEgH.out];have hS2:=Lib.hid (hS1.out.then (((Mod.refl [] w1).alloc (.cells #[.int .u64 xh,.int .i64 xw,.int .i64 xt,.int .i64 xf,.int .i64 xn] 119)).alloc (.cells #[.int .i64 p1,.int .i64 p2,.int .i64 p3] 121) |> hm1.nil_then));clear hm1 hS1 hfi c1 c2 c3 c4;go_wp2_with fail;go_ret;exact⟨rfl,hp_shut hBH.out hS2.out⟩
theorem setD_keeps {c:HC} (hc:c.Ok) {k:Nat} {s:HS} (hI:HInv c k s) (p o i v:Int):(0≤(setD s p o i v).1∧(setD s p o i v).1≤29)∧(setD s p o i v).2.evs=s.evs∧(setD s p o i v).2.miss=s.miss:=by
 unfold setD;split
 ·exact⟨fieldE_range hc hI _ _ _ _,rfl,rfl⟩
 ·split
  ·exact⟨by simp only;omega,rfl,rfl⟩
  ·exact⟨by simp only;omega,rfl,rfl⟩
theorem set_op {F:List Nat} {W w:World} {cs:List Comp} {a:HA} {c:HC} {k:Nat} {s:HS} (hc:c.Ok) (hI:HInv c k s) (hk:k≤900) {p o i v:Int} (o0:0≤o) (o1:o≤18446744073709551615) (v0:0≤v) (v1:v≤18446744073709551615) (hS:Scene F W (hpA a c s::cs) w):
  Calls Tryz.prog 16 #[.pointer (some ⟨a.hb,0,none⟩),.int .i64 p,.int .u64 o,.int .i64 i,.int .u64 v] w fun e w'=>e=.returned (.int .i64 (opSet c s p o i v).1)∧Scene F W (hpA a c (opSet c s p o i v).2::cs) w':=by
 have hS1:=((((((((hS.alloc (.cells #[.pointer (some ⟨a.hb,0,none⟩)] 27)).swap.alloc (.cells #[.int .i64 p] 3)).swap.alloc (.cells #[.int .u64 o] 50)).swap.alloc (.cells #[.int .i64 i] 3)).swap.alloc (.cells #[.int .u64 v] 49)).swap.alloc (.cells #[.int .i64 p,.int .i64 4,.int .u64 o,.int .u64 (u64 i),.int .i64 0] 99)).swap));simp only[size_alloc]at hS1;obtain⟨hr,he,hms⟩:=setD_keeps hc hI p o i v;have hu:0≤u64 i∧u64 i≤18446744073709551615:=by unfold u64;omega
 have hact:=Lib.hid (act_rec (rs:=setD s p o i v) (h1:=o) (g:=49) hI (by omega) hS1 (by omega) (by omega) hu Tryz.call49 hr ⟨o0,o1⟩ he hms fun _ w' h'=>set_c hc hI (by omega) o0 o1 v0 v1 h');unfold opSet;generalize act c s p 4 o (u64 i) (setD s p o i v)=res at*;clear hS hS1 hr he hms;go_enter Tryz.func16,Tryz.ntmps16;go_wp2_with fail;refine hact.out.mono ?_;rintro e w1 ⟨rfl,eh2,er2,hS2,_⟩;have hS2:=Lib.hid hS2;clear hact;go_wp2_with fail;go_ret;exact⟨rfl,(((((hS2.out.erase 1).erase 1).erase 1).erase 1).erase 1).erase 1⟩
theorem other_zero {s:HS} {p q:Int} (h:otherE s p q=0):s.st q=1∧q≠p:=by
 unfold otherE at h;split at h
 ·cases h
 ·rename_i h2;simp only[not_or,Classical.not_not]at h2;exact⟨h2.2,h2.1⟩
end Go.Proofs.YteidpgdfocjdbaaGreat
