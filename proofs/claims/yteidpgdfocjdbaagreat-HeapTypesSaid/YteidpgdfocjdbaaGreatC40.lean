/- Joined contracts. No conditions. -/
import Derived.Test.YteidpgdfocjdbaaGreatCS
import Derived.Test.YteidpgdfocjdbaaGreatC07
import Derived.Test.YteidpgdfocjdbaaGreatC15
import Derived.Test.YteidpgdfocjdbaaGreatC16
import Derived.Test.YteidpgdfocjdbaaGreatC20
import Derived.Test.YteidpgdfocjdbaaGreatC22
import Derived.Test.YteidpgdfocjdbaaGreatC29
import Derived.Test.YteidpgdfocjdbaaGreatC31
import Derived.Test.YteidpgdfocjdbaaGreatC32
import Derived.Test.YteidpgdfocjdbaaGreatC33
import Derived.Test.YteidpgdfocjdbaaGreatC34
import Derived.Test.YteidpgdfocjdbaaGreatC36
import Derived.Test.YteidpgdfocjdbaaGreatC37
import Derived.Test.YteidpgdfocjdbaaGreatC38
import Derived.Test.YteidpgdfocjdbaaGreatC39
set_option maxHeartbeats 4000000
set_option maxRecDepth 20000
namespace Go.Proofs.YteidpgdfocjdbaaGreat
open Go Go.RowKit Go.Stg
section
variable {c:HC} {k:Nat} {s:HS}
theorem inv_act {p op h arg:Int} {r:Int×HS} (hI:HInv c k s) (hr:s.st p=1→HInv c (k+1) r.2) (ho:1≤op∧op≤11) (hh:s.st p=1→0≤h∧h≤18446744073709551615) (ha:0≤arg∧arg≤18446744073709551615) (he:s.st p=1→0≤r.1∧r.1≤29):HInv c (k+2) (act c s p op h arg r).2:=by
 unfold act;split
 ·exact hI.up (by omega)
 ·rename_i h1;have hst:s.st p=1:=Classical.byContradiction h1;split
  ·exact(inv_miss hI p).up (by omega)
  ·exact inv_log (hr hst) ⟨hI.alive hst,.inl ho,hh hst,ha,he hst⟩
theorem inv_actQ {p op h arg e:Int} (hI:HInv c k s) (ho:1≤op∧op≤11) (hh:0≤h∧h≤18446744073709551615) (ha:0≤arg∧arg≤18446744073709551615) (he:0≤e∧e≤29):HInv c (k+2) (actQ c s p op h arg e).2:=by
 unfold actQ;split
 ·exact hI.up (by omega)
 ·rename_i h1;split
  ·exact hI.up (by omega)
  ·exact(inv_log hI ⟨hI.alive (Classical.byContradiction h1),.inl ho,hh,ha,he⟩).up (by omega)
theorem u64_range (n:Int):0≤u64 n∧u64 n≤18446744073709551615:=by unfold u64;omega
theorem inv_setD (hc:c.Ok) (hI:HInv c k s) (p o i v:Int):HInv c k (setD s p o i v).2:=by
 unfold setD;split
 ·exact hI
 ·rename_i h;split
  ·exact hI
  ·obtain⟨hacc,hty,hpe,hk6⟩:=fieldE_zero hc hI (Classical.byContradiction h);obtain⟨off,n,hpo,hpn,hwo,hpfit⟩:=place_in hty hpe hk6;obtain⟨j,xo,xl,hj,hjn,hlv,hent,hxo,hxl,hby,hmx,hms,hus,hob⟩:=ob_at hI (acc_res hacc);have hms':((memH s j).length:Int)=Ty.sizeT (tyH s o).1 (tyH s o).2:=hms;rw[hpo,hpn,Int.toNat_natCast];exact(inv_put hI (acc_res hacc) hj (off:=off) (by omega) (b:=leB v n) (by rw[leB_len];omega) (leB_bytes v n)).1
theorem setD_range (hc:c.Ok) (hI:HInv c k s) (p o i v:Int):0≤(setD s p o i v).1∧(setD s p o i v).1≤29:=by
 have:=fieldE_range hc hI p o 2 i;unfold setD;split
 ·exact this
 ·split<;>simp only<;>omega
theorem inv_lendD (hI:HInv c k s) (p o q:Int) {acc m:Int} (hm:lendM acc m):HInv c (k+1) (lendD c s p o q acc m).2:=by
 unfold lendD;split
 ·exact hI.up (by omega)
 ·rename_i h;have hE:accD s p o acc=0:=Classical.byContradiction h;split
  ·exact hI.up (by omega)
  ·rename_i h2;obtain⟨h3,h4⟩:=other_zero (Classical.byContradiction h2);obtain⟨hown,hle⟩:=lend_may hI hE hm;split
   ·exact hI.up (by omega)
   ·rename_i h5;obtain⟨j,hj,hjn,hlv,hent,_⟩:=res_live hI (acc_res hE);rw[hent]at hown;refine(inv_lend hI hj hlv h3 (by rw[hown];exact h4) (fun hg=> ?_) hle).1;exact Classical.byContradiction fun h6=>h5 ⟨hg,h6⟩
theorem inv_releaseD (hI:HInv c k s) (p o:Int):HInv c k (releaseD s p o).2:=by
 unfold releaseD;split
 ·exact hI
 ·split
  ·exact hI
  ·rename_i h
   cases hg:Bw.getB s.L (Tb.hSlot o,p)with
   |none=>exact absurd (Bw.relE_none hg) (by simpa using fun h'=>by rw[h']at h;simp at h)
   |some b=>exact(inv_release hI hg).1
theorem inv_allocS (hc:c.Ok) (hI:HInv c k s) {p:Int} (hp:s.st p=1) (tag d:Int):HInv c k (allocS c s p tag d):=by
 by_cases h:allocE c s p tag=0
 ·exact(inv_alloc hc hI hp h).2.inv
 ·rw[(allocE_bad h d).1];exact hI
theorem issH_range (hc:c.Ok) (hI:HInv c k s) {p:Int} (hp:s.st p=1) {tag:Int} (d:Int) (h:allocE c s p tag=0):0≤Tb.issH c.first s.T p tag d∧Tb.issH c.first s.T p tag d≤18446744073709551615:=by
 obtain⟨hok,hcm⟩:=inv_alloc hc hI (d:=d) hp h;obtain⟨hjn,hd,hl,he,hoth⟩:=iss_slot hI.tin hc.f1 hc.f2 (allocX c s tag).1 (allocX c s tag).2 d hok;have hT:(allocS c s p tag d).T=Tb.issT c.first s.T p tag (allocX c s tag).1 (allocX c s tag).2 d:=by unfold allocS;rw[if_pos h]
 obtain⟨_,_,r⟩:=live_res hcm.inv.tin hjn hc.n (by rw[hT];exact hl) hc.f1;rw[hT,he]at r;unfold Tb.issH;rw[if_pos hok];exact r
theorem allocH_range (hc:c.Ok) (hI:HInv c k s) {p:Int} (hp:s.st p=1) (tag d:Int):0≤allocH c s p tag d∧allocH c s p tag d≤18446744073709551615:=by
 unfold allocH;split
 ·rename_i h;exact issH_range hc hI hp d h
 ·omega
theorem inv_start (hI:HInv c k s) (p:Int):HInv c (k+1) (startD s p).2:=by
 unfold startD;split
 ·exact hI.up (by omega)
 ·rename_i hr;split
  ·exact hI.up (by omega)
  ·rename_i h0;have hst:s.st p=0:=Classical.byContradiction h0;have hu:=inv_ev hI (e:=⟨p,32,0,0,0⟩) ⟨by simp only;omega,.inr (.inl rfl),by simp only;omega,by simp only;omega,by simp only;omega⟩;have hne:∀q,s.st q=1→setI s.st p 1 q=1:=fun q hq=>by unfold setI;split<;>first|rfl|exact hq
   refine⟨hu.tin,hu.lin,hu.llen,hu.rok,hu.rlen,hu.evk,hu.evok,hu.missk,hu.uok,fun e he=> ?_,hu.mlen,hu.mem,hu.memB,hu.dead,fun b hb=> ?_,hu.lim,fun q=> ?_⟩
   ·obtain⟨k1,k2,k3⟩:=hI.ent e he;exact⟨hne _ k1,k2,k3⟩
   ·obtain⟨k1,k2⟩:=hI.bor b hb;exact⟨hne _ k1,k2⟩
   ·show setI s.st p 1 q=0∨(_∧(setI s.st p 1 q=1∨setI s.st p 1 q=2));unfold setI;by_cases e:q=p
    ·rw[if_pos e,e];exact .inr ⟨by omega,.inl rfl⟩
    ·rw[if_neg e];exact hI.st q
theorem inv_def (hI:HInv c k s) (t:Ty.Ty):HInv c k (defS s t):=by
 have hR:s.R<+:Ty.regN s.R t:=by
  unfold Ty.regN
  repeat' split
  all_goals first|exact List.prefix_refl _|exact List.prefix_append _ _
 have hlk:∀tag:Int,1≤tag∧tag≤s.R.length→Ty.lookT (Ty.regN s.R t) tag=Ty.lookT s.R tag:=fun tag h=>by
  obtain⟨z,hz⟩:=hR;rw[←hz];unfold Ty.lookT;rw[if_pos (by simp only[List.length_append];omega),if_pos h,List.getD_eq_getElem?_getD,List.getD_eq_getElem?_getD,List.getElem?_append_left (by omega)]
 have hsz:∀tag:Int,1≤tag∧tag≤s.R.length→sizeTag (defS s t) tag=sizeTag s tag:=fun tag h=>by
  unfold sizeTag tyTag;rw[show(defS s t).R=Ty.regN s.R t from rfl,hlk tag h]
 have hlen:=hR.length_le;have g1:∀x∈Ty.regN s.R t,Ty.TyOk x:=by
  unfold Ty.regN;split
  ·rename_i h;intro x hx;rcases List.mem_append.1 hx with hx|hx
   ·exact hI.rok x hx
   ·rw[List.mem_singleton.1 hx];exact h.1
  ·exact hI.rok
 have g2:(Ty.regN s.R t).length≤255:=by
  have:=hI.rlen;unfold Ty.regN;split
  ·simp only[List.length_append,List.length_cons,List.length_nil];omega
  ·exact this
 refine⟨hI.tin,hI.lin,hI.llen,g1,g2,hI.evk,hI.evok,hI.missk,hI.uok,fun e he=> ?_,hI.mlen,fun j hj hl=> ?_,hI.memB,hI.dead,hI.bor,hI.lim,hI.st⟩
 ·obtain⟨k1,k2,k3⟩:=hI.ent e he;refine⟨k1,⟨k2.1,?_⟩,?_⟩
  ·show e.tag≤(Ty.regN s.R t).length;omega
  ·rw[hsz _ k2];exact k3
 ·show((memH s j).length:Int)=sizeTag (defS s t) (Tb.entN s.T.E j).tag;rw[hsz _ (hI.ent _ (liveE_mem hj hl)).2.1];exact hI.mem j hj hl
theorem inv_opAlloc (hc:c.Ok) (hI:HInv c k s) (p tag d:Int):HInv c (k+2) (opAlloc c s p tag d).2:=
 inv_act hI (fun h=>(inv_allocS hc hI h tag d).up (by omega)) (by omega) (fun h=>allocH_range hc hI h tag d) (u64_range _) fun _=>allocE_range p tag
section
variable {o:Int} (o0:0≤o) (o1:o≤18446744073709551615)
include o0 o1
theorem inv_opGet (hc:c.Ok) (hI:HInv c k s) (p i:Int):HInv c (k+2) (opGet c s p o i).2:=inv_actQ hI (by omega) ⟨o0,o1⟩ (u64_range _) (fieldE_range hc hI _ _ _ _)
theorem inv_opSet (hc:c.Ok) (hI:HInv c k s) (p i v:Int):HInv c (k+2) (opSet c s p o i v).2:=
 inv_act hI (fun _=>(inv_setD hc hI p o i v).up (by omega)) (by omega) (fun _=>⟨o0,o1⟩) (u64_range _) fun _=>setD_range hc hI p o i v
theorem inv_opShare (hI:HInv c k s) (p q:Int):HInv c (k+2) (opShare c s p o q).2:=
 inv_act hI (fun _=>inv_lendD hI p o q (.inl ⟨rfl,rfl⟩)) (by omega) (fun _=>⟨o0,o1⟩) (u64_range _) fun _=>(lendD_keeps hI p o q (.inl ⟨rfl,rfl⟩)).1
theorem inv_opRelease (hI:HInv c k s) (p:Int):HInv c (k+2) (opRelease c s p o).2:=
 inv_act hI (fun _=>(inv_releaseD hI p o).up (by omega)) (by omega) (fun _=>⟨o0,o1⟩) (by omega) fun _=>(releaseD_keeps s p o).1
end
end
end Go.Proofs.YteidpgdfocjdbaaGreat
namespace Go.Proofs.YteidpgdfocjdbaaGreat
open Go Go.RowKit Go.Stg
theorem append_ev {lb:Nat} {cap:Int} {evs:List Ev} {miss:List Int} {w:World} {f:List Nat} (h:(logC lb cap evs miss).on w f) {e:Ev} (he:e.ok) (hc:e.counts=false) (hn:evs.length≤100000):
  Calls Tryz.prog 34 #[.pointer (some ⟨lb,0,none⟩),.agg #[.int .i64 e.p,.int .i64 e.op,.int .u64 e.h,.int .u64 e.arg,.int .i64 e.err]] w (Takes (logC lb cap (evs++[e]) miss) (.int .i64 0) w f):=by
 have:=logappend_ok h he hn;have e1:appE cap evs e=0:=by unfold appE;rw[if_neg (by simp[hc])]
 have e2:appL cap evs e=evs++[e]:=by unfold appL;rw[if_neg (by simp[hc])]
 rw[e1,e2]at this;exact this
theorem start_op {F:List Nat} {W w:World} {cs:List Comp} {a:HA} {c:HC} {k:Nat} {s:HS} (hI:HInv c k s) (hk:k≤900) {p:Int} (hS:Scene F W (hpA a c s::cs) w):
  Calls Tryz.prog 11 #[.pointer (some ⟨a.hb,0,none⟩),.int .i64 p] w fun e w'=>e=.returned (.int .i64 (startD s p).1)∧Scene F W (hpA a c (startD s p).2::cs) w':=by
 obtain⟨B,hB,hS0⟩:=hp_open hS;have hel:=hI.evk;have hwk:=Lib.hid fun w' (hm:Mod [] w w')=>works_ok (hm.at (hS0.block 0 rfl) (by simp))
 have hir:=Lib.hid fun w'=>inrange_ok p 1 64 w'
 by_cases hr:1≤p∧p≤64
 ·have hr1:(decide (1≤p)&&decide (p≤64))=true:=by simp[hr.1,hr.2]
  rw[hr1]at hir;have hrs:∀x y:Int×HS,(if p<1∨64<p then x else y)=y:=fun x y=>if_neg (by omega)
  unfold startD;rw[hrs];have hrH:=Lib.hid hr;by_cases hst:s.st p=0
  ·rw[if_neg (by simp[hst])];have hBH:=Lib.hid hB;have hstH:=Lib.hid hst;have hS1:=Lib.hid hS0;clear hS hS0 hB hr hr1 hrs;have hd1:decide (s.st p≠0)=false:=by simp[hst]
   have hdH:=Lib.hid hd1;clear hd1 hst;go_enter Tryz.func11,Tryz.ntmps11;go_wp2_with fail;refine(hir.out _).mono ?_;rintro e w1 ⟨rfl,hm1⟩;have hm1H:=Lib.hid hm1;clear hm1 hir;go_wp2_with fail;refine(hwk.out _ hm1H.out).mono ?_;rintro e w2 ⟨rfl,hm2⟩;have hS2:=Lib.hid (hS1.out.then (hm1H.out.nil_then hm2));have c1:=cells_of (hS2.out.block 0 rfl);obtain⟨fs,hs2,hput⟩:=hS2.out.part 7 rfl;have hlk:=hs2.1.look2 p;rw[hdH.out]at hlk;obtain⟨w3,hup,hst3,hm3⟩:=hs2.1.put p true;have hfs:=hs2.2;subst hfs;have hS3:=Lib.hid (hput w3 [a.sm] (stC a.sm (setI s.st p 1)) ⟨hst3,rfl⟩ hm3 (fun x hx=>.inl hx));have c2:=cells_of (hS3.out.block 0 rfl);clear hm2 hwk hm1H hS1 hS2 hs2 hput hst3 hm3;go_wp2_with fail;obtain⟨fl,hl,hput⟩:=hS3.out.part 6 rfl;refine(append_ev hl (e:=⟨p,32,0,0,0⟩) ⟨hrH.out,.inr (.inl rfl),by simp only;omega,by simp only;omega,by simp only;omega⟩ rfl (by omega)).mono ?_;rintro e w4 ⟨f',rfl,q1,q2,q3⟩;have hS4:=Lib.hid (hput w4 f' _ q1 q2 q3);clear hl hput q1 q2 q3 hS3 c1 c2 hlk hup;go_wp2_with fail;go_ret;exact⟨rfl,hp_close (s':={s with st:=setI s.st p 1,evs:=s.evs++[⟨p,32,0,0,0⟩]}) rfl (fun _=>rfl) hBH.out hS4.out⟩
  ·rw[if_pos hst];have hd1:decide (s.st p≠0)=true:=by simp[hst]
   have hdH:=Lib.hid hd1;have hBH:=Lib.hid hB;have hS1:=Lib.hid hS0;clear hS hS0 hB hr hr1 hrs hd1 hst hel;go_enter Tryz.func11,Tryz.ntmps11;go_wp2_with fail;refine(hir.out _).mono ?_;rintro e w1 ⟨rfl,hm1⟩;have hm1H:=Lib.hid hm1;clear hm1 hir;go_wp2_with fail;refine(hwk.out _ hm1H.out).mono ?_;rintro e w2 ⟨rfl,hm2⟩;have hS2:=Lib.hid (hS1.out.then (hm1H.out.nil_then hm2));have c1:=cells_of (hS2.out.block 0 rfl);have hlk:=(scene_st 7 hS2.out rfl).look2 p;rw[hdH.out]at hlk;clear hm2 hwk hm1H hS1;go_wp2_with fail;go_ret;exact⟨rfl,hp_shut hBH.out hS2.out⟩
 ·have hr1:(decide (1≤p)&&decide (p≤64))=false:=by
   rw[Bool.and_eq_false_iff];simp only[decide_eq_false_iff_not];omega
  rw[hr1]at hir;have hrs:∀x y:Int×HS,(if p<1∨64<p then x else y)=x:=fun x y=>if_pos (by omega)
  unfold startD;rw[hrs];have hSH:=Lib.hid hS;clear hS hS0 hB hr hr1 hrs hwk hel;go_enter Tryz.func11,Tryz.ntmps11;go_wp2_with fail;refine(hir.out _).mono ?_;rintro e w1 ⟨rfl,hm1⟩;have hm1H:=Lib.hid hm1;clear hm1 hir;go_wp2_with fail;go_ret;exact⟨rfl,hSH.out.then hm1H.out⟩
end Go.Proofs.YteidpgdfocjdbaaGreat
namespace Go.Proofs.YteidpgdfocjdbaaGreat
open Go Go.RowKit Go.Stg
open Ty (FieldsAt fcells)
section
variable {F:List Nat} {W w:World} {cs:List Comp} {a:HA} {c:HC} {s:HS}
theorem hdefine_ok (hS:Scene F W (hpA a c s::cs) w) (len:Int) (v:Value) (fs:List Ty.Fld) (hF:FieldsAt w v fs) (hn: -9223372036854775808≤len) (hn2:len≤9223372036854775807):
  Calls Tryz.prog 9 #[.pointer (some ⟨a.hb,0,none⟩),.agg #[.int .i64 len,v]] w fun e w'=>e=.returned (.tuple #[.int .i64 (Ty.regTag s.R (len,fs)),.int .i64 (Ty.regErr s.R (len,fs))])∧Scene F W (hpA a c (defS s (len,fs))::cs) w':=by
 obtain⟨va,vl,vc,rfl⟩:=Ty.FieldsAt.slice hF;obtain⟨B,hB,hS0⟩:=hp_open hS;have hBH:=Lib.hid hB;have hFH:=Lib.hid hF;have hwk:=Lib.hid fun w' (hm:Mod [] w w')=>works_ok (hm.at (hS0.block 0 rfl) (by simp))
 have hm0:=Lib.hid ((Mod.refl [] w).alloc (.cells #[.int .i64 len,.slice va vl vc] 25));have hS1:=Lib.hid ((hS0.alloc (.cells #[.int .i64 len,.slice va vl vc] 25)));have hnH:=Lib.hid (And.intro hn hn2);clear hS hS0 hB hF hn hn2;go_enter Tryz.func9,Tryz.ntmps9;go_wp2_with fail;refine(hwk.out _ hm0.out).mono ?_;rintro e w1 ⟨rfl,hm⟩;have hS2:=Lib.hid (hS1.out.then hm);have hm1:=Lib.hid (hm0.out.nil_then hm);clear hwk hS1 hm0 hm;go_wp2_with fail;generalize w.heap.size=bx at*;obtain⟨fa,hl,hput,hne⟩:=hS2.out.takePart 3 rfl;have k1:=GW.cells (S:=fa) (hS2.out.block 1 rfl) (hne 1 _ _ rfl);have k2:=GW.cells (S:=fa) (hS2.out.block 0 rfl) (hne 0 _ _ rfl);have hlH:=Lib.hid fun w' (hm:Mod [] w1 w')=>Ty.register_ok (hl w' hm) len (.slice va vl vc) fs ((hFH.out.mod hm1.out).mod hm) hnH.out.1 hnH.out.2
 have hputH:=Lib.hid hput;clear hl hput hne;refine wp_region_part fa (by kernel_rfl) (by kernel_rfl) ?_;refine stage_quiet 5 (by kernel_rfl) ?_;simp only[tA,tB,tC,tD];(repeat go_big_quiet_step (fail));refine wpQuiet_nil ?_;refine stage_takes 30 #[.pointer (some ⟨a.rt,0,none⟩),.agg #[.int .i64 len,.slice va vl vc]] (.tuple #[.int .i64 (Ty.regTag s.R (len,fs)),.int .i64 (Ty.regErr s.R (len,fs))]) rfl Tryz.call30 rfl rfl hlH.out ?_;simp only[Act.put,sA,sB,sC];refine stage_quiet 4 (by kernel_rfl) ?_;simp only[tA,tB,tC,tD];(repeat go_big_quiet_step (fail));refine wpQuiet_nil ?_;refine stage_nil fun w2 hw2=> ?_
 have hS3:=Lib.hid (hputH.out w2 _ hw2);clear k1 k2 hlH hputH hw2 hS2;go_wp2_with fail;go_ret2;refine⟨rfl,?_⟩;exact hp_shut (s:=defS s (len,fs)) (B:=B) hBH.out (hS3.out.erase 0)
end
end Go.Proofs.YteidpgdfocjdbaaGreat
namespace Go.Proofs.YteidpgdfocjdbaaGreat.Tb
open Go Go.RowKit Go.Stg
theorem TAll_says (n':Nat) (hn':1≤n') (Bs n₀:Nat) (Av:World→Nat→Prop) {n:Nat} {first:Int} {x:TS} {tb b pb:Nat} {ev sl:Value} {f:List Nat} (hI:TInv n first x) (hn:n≤4096) (w:World) (hBs:w.heap[Bs]? =some (.cells #[.pointer (some ⟨tb,0,none⟩)] 78 (0,0))) (hn₀:n₀≤w.heap.size) (hT:(tabC tb ev b pb sl first x).on w f)
  (hAv:∀W W2 k,RowKit.Below w.heap.size w W→RowKit.Below W.heap.size W W2→W.heap.size≤k→Av W2 k):
  SeqSays Fence.wide n' Tryz.prog 146 #[.pointer (some ⟨Bs,0,none⟩)] (fun p:Int×Ent=>#[Value.int .i64 p.1,entV p.2]) (fun pre p _=>pre++[p]<+:liveP x n) (Keeps n₀ Av) (fun ys=>ys=liveP x n) (fun pre=>pre<+:liveP x n) (liveP x n).length w:=fun l J Jx W hW hJ _ h0 hY=>
 TAllC_in n' hn' l Bs n₀ Av hI hn J Jx (fun pre p W1 h1 h2 h3=>hY pre p W1 h1 h3 h2) W (Nat.le_trans hn₀ hW.size) ((Mod.of_below hW).at hBs (by simp)) ((tabC tb ev b pb sl first x).keep hT (Mod.of_below hW) (by simp)) (fun W2 k h1 h2=>hAv W W2 k hW h1 h2) hJ h0
end Go.Proofs.YteidpgdfocjdbaaGreat.Tb
