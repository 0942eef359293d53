/- Joined contracts. No conditions. -/
import Derived.Test.YteidpgdfocjdbaaGreatCS
import Derived.Test.YteidpgdfocjdbaaGreatC04
import Derived.Test.YteidpgdfocjdbaaGreatC07
import Derived.Test.YteidpgdfocjdbaaGreatC21
set_option maxHeartbeats 8000000
set_option maxRecDepth 100000
namespace Go.Proofs.YteidpgdfocjdbaaGreat.Bw
open Go Go.RowKit Go.Stg
theorem del_any {w:World} {c ck:Nat} {es:Array MapEntry} {o:Int} (ty:TypeId) (hb:w.heap[c]? =some (.map es ck)) (h:IKeys es.toList):∃w',(Builtin.delete_ #[137,3] ty #[.map (some c),.int .i64 o]).run Tryz.prog w=.ok (.tuple #[]) w'∧w'.heap[c]? =some (.map (mdel o es) ck)∧Mod [c] w w':=
 ⟨_,run_delete_int Tryz.underlying137 Tryz.underlying3 hb h o #[137,3] rfl,at_setMap hb,(Mod.refl _ w).setMap (.inl (by simp)) _⟩
theorem remove_ok {w:World} {b:Nat} {L:List Bor} {f:List Nat} (h:(ledC b L).on w f) (hS:Srt L) (hl:L.length≤1000000) {x:Bor} (yo yh ym yc:Int) (hg:getB L (yo,yh)=some x):
  Calls Tryz.prog 103 #[.pointer (some ⟨b,0,none⟩),.agg #[.int .i64 yo,.int .i64 yh,.int .i64 ym,.int .i64 yc]] w (Takes (ledC b (without L (yo,yh))) (.tuple #[]) w f):=by
 rcases h with⟨hb,hL,rfl⟩|⟨a,c,bs,hb,hab,hcb,hac,hM,hp,hC,rfl⟩
 ·subst hL;cases hg
 ·obtain⟨es,ck,hc,hCA⟩:=hC.at;have hse:=Lib.hid fun q=>ofO_without hS.nodup hg q
  have hnod:=Lib.hid (((hp.map (·.1)).nodup_iff).2 hS.nodup);have hol:(ofO L yo).length≤L.length:=List.length_filter_le _ _;have hlk:=hCA.get yo;have hn1:1≤(ofO L yo).length:=by have:=ofO_without hS.nodup hg yo;rw[if_pos rfl]at this;omega
  obtain⟨n,hn⟩:∃n:Int,n=((ofO L yo).length:Nat):=⟨_,rfl⟩;have hnb:1≤n∧n≤1000000:=by omega
  rw[←hn]at hlk;have hlkH:=Lib.hid hlk;have hnH:=Lib.hid hn;have hpH:=Lib.hid hp;have hCAH:=Lib.hid hCA;have h1b:=Lib.hid (at_alloc_old (o:=.cells #[.int .i64 yo,.int .i64 yh,.int .i64 ym,.int .i64 yc] 130) hb);have h1y:=Lib.hid (at_alloc w (.cells #[.int .i64 yo,.int .i64 yh,.int .i64 ym,.int .i64 yc] 130));have h1M:=Lib.hid (hM.mod ((Mod.refl [] w).alloc (.cells #[.int .i64 yo,.int .i64 yh,.int .i64 ym,.int .i64 yc] 130)) (by simp));have h1c:=Lib.hid (at_alloc_old (o:=.cells #[.int .i64 yo,.int .i64 yh,.int .i64 ym,.int .i64 yc] 130) hc);have h1m:=Lib.hid ((Mod.refl [b,a,c] w).alloc (.cells #[.int .i64 yo,.int .i64 yh,.int .i64 ym,.int .i64 yc] 130));have hay:=hM.lt;have hcy:=lt_of hc;have hab':=Lib.hid hab;have hcb':=Lib.hid hcb;have hac':=Lib.hid hac;clear hS hg hp hCA hlk hn hb hM hC hc hol hn1 hl hab hcb hac;have hab:=Lib.hid hab'.out;have hcb:=Lib.hid hcb'.out;have hac:=Lib.hid hac'.out;clear hab' hcb' hac';go_enter Tryz.func103,Tryz.ntmps103;go_wp2_with fail;generalize hyb:w.heap.size=y at*;generalize w.alloc (.cells #[.int .i64 yo,.int .i64 yh,.int .i64 ym,.int .i64 yc] 130)=W0 at*;have q1:=GW.cells (S:=[a]) h1b.out (by simpa using hab.out.symm);have q2:=GW.cells (S:=[a]) h1y.out (by simpa using Nat.ne_of_gt hay);refine wp_region_stage (fun w'=>∃x:GW [a] W0,w'=x.1) (fun w'=>Mod [] W0 w') (by kernel_rfl) (by kernel_rfl) (fun _ h=>InGW.of (h.mono (by simp))) (Mod.refl _ _).drew ?_;refine stage_quiet 9 (by kernel_rfl) ?_;simp only[tA,tB,tC,tD];(repeat go_big_quiet_step (fail));refine wpQuiet_nil ?_;refine stage_del (fun w'=>Mod [a] W0 w'∧∃bs',MapIs w' a bs'∧bs'.Perm (without bs (yo,yh))) rfl rfl rfl rfl (fun w' h=> ?_) (fun _ h=>InGW.of h.1) ?_
  ·obtain⟨w4,bs',hr,hM,hmd,hsz,hp⟩:=del_b (h1M.out.mod h (by simp)) hnod.out (yo,yh) _;exact⟨w4,hr,(h.mono (by simp)).trans hmd,bs',hM,hp⟩
  simp only[Act.put];refine stage_nil fun W1 hm1=> ?_
  obtain⟨hm1,bs1,hM1,hp1⟩:=hm1;have hmAA:=Lib.hid hm1;have h2b:=Lib.hid (hm1.at h1b.out (by simpa using hab.out.symm));have h2y:=Lib.hid (hm1.at h1y.out (by simpa using Nat.ne_of_gt hay));have h2c:=Lib.hid (hm1.at h1c.out (by simpa using hac.out.symm));have h2M:=Lib.hid hM1;have hp1H:=Lib.hid hp1;have h2m:=Lib.hid (h1m.out.then hm1 (fun x hx=>.inl (by simp at hx;simp[hx])));clear q1 q2 hm1 hM1 hp1 hmAA h1b h1y h1c h1m h1M;go_wp2_with fail;have q1:=GW.cells (S:=[]) h2b.out (by simp);have q2:=GW.cells (S:=[]) h2y.out (by simp);have q3:∀x:GW [] W1,(Instr.lookup 137 (.map (some c)) (.int .i64 yo) false).run Tryz.prog x.1=.ok (.int .i64 n) x.1:=fun x=>by
   rw[run_lookup_int Tryz.underlying137 Tryz.underlying3 Tryz.zeroValue3 (x.2.at h2c.out (by simp)) hCAH.out.1,hlkH.out]
  refine wp_region_stage (fun w'=>∃x:GW [] W1,w'=x.1) (fun w'=>Mod [] W1 w') (by kernel_rfl) (by kernel_rfl) (fun _ h=>InGW.of h) (Mod.refl _ _).drew ?_;refine stage_quiet 8 (by kernel_rfl) ?_;simp only[tA,tB,tC,tD];(repeat go_big_quiet_step (fail));refine wpQuiet_nil ?_;refine stage_putLast (fun w'=>Mod [c] W1 w'∧w'.heap[c]? =some (.map (mput yo (.int .i64 (n-1)) ck es).1 (mput yo (.int .i64 (n-1)) ck es).2)) rfl rfl (by kernel_rfl) rfl rfl rfl rfl (fun w' h=> ?_) ?_
  ·obtain⟨w4,hr,h4,hmd,_⟩:=upd_any (o:=yo) (n:=n-1) (h.at h2c.out (by simp)) hCAH.out.1;exact⟨w4,hr,(h.mono (by simp)).trans hmd,h4⟩
  rintro W2 ⟨hm2,hc2⟩;have h3b:=Lib.hid (hm2.at h2b.out (by simpa using hcb.out.symm));have h3y:=Lib.hid (hm2.at h2y.out (by simpa using Nat.ne_of_gt hcy));have h3c:=Lib.hid hc2;have h3M:=Lib.hid (h2M.out.mod hm2 (by simpa using hac.out));have h3m:=Lib.hid (h2m.out.then hm2 (fun x hx=>.inl (by simp at hx;simp[hx])));have hk3:=mput_spec yo (.int .i64 (n-1)) ck es hCAH.out.1;have hk3H:=Lib.hid hk3;clear q1 q2 q3 hm2 hc2 h2b h2y h2c h2m h2M hk3;go_wp2_with fail;have q1:=GW.cells (S:=[]) h3b.out (by simp);have q2:=GW.cells (S:=[]) h3y.out (by simp);have q3:∀x:GW [] W2,(Instr.lookup 137 (.map (some c)) (.int .i64 yo) false).run Tryz.prog x.1=.ok (.int .i64 (n-1)) x.1:=fun x=>by
   rw[run_lookup_int Tryz.underlying137 Tryz.underlying3 Tryz.zeroValue3 (x.2.at h3c.out (by simp)) hk3H.out.1,hk3H.out.2,if_pos rfl];rfl
  by_cases h1:n=1
  ·subst h1;refine wp_region_pure (by kernel_rfl) (by kernel_rfl) ?_;refine stage_quiet 8 (by kernel_rfl) ?_;simp only[tA,tB,tC,tD];(repeat go_big_quiet_step (fail));refine wpQuiet_nil ?_;refine stage_nil fun W3 hm3=> ?_
   have h4b:=Lib.hid (hm3.at h3b.out (by simp));have h4y:=Lib.hid (hm3.at h3y.out (by simp));have h4c:=Lib.hid (hm3.at h3c.out (by simp));have h4M:=Lib.hid (h3M.out.mod hm3 (by simp));have h4m:=Lib.hid (h3m.out.nil_then hm3);clear q1 q2 q3 hm3 h3b h3y h3c h3m h3M;go_wp2_with fail;have q1:=GW.cells (S:=[c]) h4b.out (by simpa using hcb.out.symm);have q2:=GW.cells (S:=[c]) h4y.out (by simpa using Nat.ne_of_gt hcy);refine wp_region_stage (fun w'=>∃x:GW [c] W3,w'=x.1) (fun w'=>Mod [] W3 w') (by kernel_rfl) (by kernel_rfl) (fun _ h=>InGW.of (h.mono (by simp))) (Mod.refl _ _).drew ?_;refine stage_quiet 6 (by kernel_rfl) ?_;simp only[tA,tB,tC,tD];(repeat go_big_quiet_step (fail));refine wpQuiet_nil ?_;refine stage_del (fun w'=>Mod [c] W3 w'∧w'.heap[c]? =some (.map (mdel yo (mput yo (.int .i64 (1-1)) ck es).1) (mput yo (.int .i64 (1-1)) ck es).2)) rfl rfl rfl rfl (fun w' h=> ?_) (fun _ h=>InGW.of h.1) ?_
   ·obtain⟨w4,hr,h4,hmd⟩:=del_any (o:=yo) _ (h.at h4c.out (by simp)) hk3H.out.1;exact⟨w4,hr,(h.mono (by simp)).trans hmd,h4⟩
   simp only[Act.put];refine stage_nil fun W4 hm4=> ?_
   obtain⟨hm4,hc4⟩:=hm4;have hbF:=Lib.hid (hm4.at h4b.out (by simpa using hcb.out.symm));have hMF:=Lib.hid (h4M.out.mod hm4 (by simpa using hac.out));have hmFF:=Lib.hid (h4m.out.then hm4 (fun x hx=>.inl (by simp at hx;simp[hx])));have hcF:=Lib.hid hc4;clear q1 q2 hm4 hc4;go_wp2_with fail;go_end0;have hcnt:=hCAH.out.last (o:=yo) hse.out ck (.int .i64 (1-1)) (by have:=hnH.out;omega);refine⟨[b,a,c],rfl,LedAt.of hbF.out hab.out hcb.out hac.out hMF.out (hp1H.out.trans (hpH.out.filter _)) (hcnt.is hcF.out),hmFF.out,fun x hx=>.inl hx⟩
  ·have z:(n-1==0)=false:=by simp;omega
   refine wp_region_pure (by kernel_rfl) (by kernel_rfl) ?_;refine stage_quiet 8 (by kernel_rfl) ?_;simp only[tA,tB,tC,tD];(repeat go_big_quiet_step (fail));refine wpQuiet_nil ?_;refine stage_nil fun W3 hm3=> ?_
   have hbF:=Lib.hid (hm3.at h3b.out (by simp));have hcF:=Lib.hid (hm3.at h3c.out (by simp));have hMF:=Lib.hid (h3M.out.mod hm3 (by simp));have hmFF:=Lib.hid (h3m.out.nil_then hm3);clear q1 q2 q3 hm3;go_wp2_with fail;go_end0;have hcnt:=hCAH.out.less (o:=yo) hse.out ck (n:=n-1) (by have:=hnH.out;omega) (by omega);refine⟨[b,a,c],rfl,LedAt.of hbF.out hab.out hcb.out hac.out hMF.out (hp1H.out.trans (hpH.out.filter _)) (hcnt.is hcF.out),hmFF.out,fun x hx=>.inl hx⟩
end Go.Proofs.YteidpgdfocjdbaaGreat.Bw
namespace Go
namespace Stg
theorem Scene.own {c:Comp} {w:World} {f:List Nat} (h:c.on w f):Scene f w [c] w:=by
 have:=Scene.start (cs:=[c]) (w:=w) (fp:=f++[]) ⟨f,[],h,rfl,by simp,rfl⟩
 rwa [List.append_nil]at this
theorem Scene.takes {c':Comp} {w w':World} {f:List Nat} {v:Value} (h:Scene f w [c'] w'):Takes c' v w f (.returned v) w':=by
 obtain⟨h1,fp,⟨f',g,k1,k2,_,rfl⟩,h3⟩:=h;exact⟨f',rfl,k1,h1,fun x hx=>h3 x (List.mem_append_left _ hx)⟩
end Stg
end Go
namespace Go.Proofs.YteidpgdfocjdbaaGreat.Bw
open Go Go.RowKit Go.Stg
theorem relE_some {L:List Bor} {k:Int×Int} {x:Bor} (h:getB L k=some x):relE L k=0:=by unfold relE;rw[h]
theorem relE_none {L:List Bor} {k:Int×Int} (h:getB L k=none):relE L k=13:=by unfold relE;rw[h]
theorem relL_none {L:List Bor} {k:Int×Int} (h:getB L k=none):relL L k=L:=by unfold relL;rw[h]
theorem relL_last {L:List Bor} {k:Int×Int} {m:Int} (h:getB L k=some (k,(m,1))):relL L k=without L k:=by unfold relL;rw[h];rfl
theorem relL_less {L:List Bor} {k:Int×Int} {m c:Int} (h:getB L k=some (k,(m,c))) (hc:c≠1):relL L k=putB L (k,(m,c-1)):=by unfold relL;rw[h];simp[hc]
theorem release_ok {w:World} {b:Nat} {L:List Bor} {f:List Nat} (h:(ledC b L).on w f) {N:Int} (hI:LInv N L) (hN:N≤1000000) (hl:L.length≤1000000) (o k:Int):
  Calls Tryz.prog 55 #[.pointer (some ⟨b,0,none⟩),.int .i64 o,.int .i64 k] w (Takes (ledC b (relL L (o,k))) (.int .i64 (relE L (o,k))) w f):=by
 have hho:=holds_ok (LedV.of h) hI.srt o k
 cases hg:getB L (o,k)with
 |none=>
  rw[hg]at hho;rw[relE_none hg,relL_none hg];have hhoH:=Lib.hid hho;have hhH:=Lib.hid h;clear hho h hI hg;go_enter Tryz.func55,Tryz.ntmps55;go_wp2_with fail;refine hhoH.out.mono ?_;unfold foundV bv b0;rintro e w1 ⟨rfl,hm1⟩;have hm1H:=Lib.hid hm1;clear hm1;go_wp2_with fail;go_ret;exact Takes.same hhH.out (by repeat (first|exact hm1H.out|refine Mod.alloc ?_ _))
 |some x=>
  obtain⟨⟨xo,xk⟩,m,c0⟩:=x;have hk:=(getB_some hg).2;simp only[Prod.mk.injEq]at hk;obtain⟨rfl,rfl⟩:=hk;have h1:=hI.one _ (getB_some hg).1;simp only at h1;rw[hg]at hho;rw[relE_some hg];have hhoH:=Lib.hid hho;have hgH:=Lib.hid hg;have hs:=Lib.hid hI.srt;by_cases hc1:c0=1
  ·subst hc1;rw[relL_last hg];have hhH:=Lib.hid h;clear hho h hI hg;go_enter Tryz.func55,Tryz.ntmps55;go_wp2_with fail;refine hhoH.out.mono ?_;unfold foundV bv;rintro e w1 ⟨rfl,hm1⟩;have hm2:=hm1.alloc (.cells #[.int .i64 xo,.int .i64 xk,.int .i64 m,.int .i64 0] 130);have hm2H:=Lib.hid hm2;clear hm1 hm2;go_wp2_with fail;refine(remove_ok ((ledC b L).keep hhH.out hm2H.out (by simp)) hs.out hl xo xk m 0 hgH.out).mono ?_;rintro e w3 ⟨f',rfl,k1,k2,k3⟩;have hfin:Hid (Takes (ledC b (without L (xo,xk))) (.int .i64 0) w f (.returned (.int .i64 0)) w3):=Lib.hid ⟨f',rfl,k1,(hm2H.out.mono (by simp)).then k2 (fun x hx=>.inl hx),fun x hx=>(k3 x hx).imp id (fun h=>Nat.le_trans hm2H.out.size h)⟩;clear k1 k2 k3;go_wp2_with fail;go_ret;exact hfin.out
  ·rw[relL_less hg hc1];have hz:(c0-1==0)=false:=by simp;omega
   rcases h with⟨hb,hL,rfl⟩|⟨a,c,bs,hb,hab,hcb,hac,hM,hp,hC,rfl⟩
   ·subst hL;cases hg
   ·have hcs:=Lib.hid (hC.same fun q=>ofO_put_old hI.srt.nodup (b:=((xo,xk),(m,c0-1))) hg q);have hnod:=Lib.hid (((hp.map (·.1)).nodup_iff).2 hI.srt.nodup);have hbH:=Lib.hid hb;have hMH:=Lib.hid hM;have hpH:=Lib.hid hp;have hab':=Lib.hid hab;have hcb':=Lib.hid hcb;have hac':=Lib.hid hac;have hay:=Lib.hid hM.lt;clear hho hI hg hb hM hp hC hab hcb hac;go_enter Tryz.func55,Tryz.ntmps55;go_wp2_with fail;refine hhoH.out.mono ?_;unfold foundV bv;rintro e w1 ⟨rfl,hm1⟩;have hm2:=hm1.alloc (.cells #[.int .i64 xo,.int .i64 xk,.int .i64 m,.int .i64 (c0-1)] 130);have hbox:=at_alloc w1 (.cells #[.int .i64 xo,.int .i64 xk,.int .i64 m,.int .i64 (c0-1)] 130);have hsz:=hm1.size;have hm2H:=Lib.hid hm2;have hboxH:=Lib.hid hbox;clear hm1 hm2 hbox;go_wp2_with fail;generalize hss:w1.heap.size=s at*;generalize w1.alloc (.cells #[.int .i64 xo,.int .i64 xk,.int .i64 m,.int .i64 (c0-1)] 130)=W at*;have h2b:=Lib.hid (hm2H.out.at hbH.out (by simp));have h2M:=Lib.hid (hMH.out.mod hm2H.out (by simp));have q1:=GW.cells (S:=[a]) h2b.out (by simpa using hab'.out.symm);have q2:=GW.cells (S:=[a]) hboxH.out (by simpa using Nat.ne_of_gt (Nat.lt_of_lt_of_le hay.out hsz));refine wp_region_stage (fun w'=>∃x:GW [a] W,w'=x.1) (fun w'=>Mod [] W w') (by kernel_rfl) (by kernel_rfl) (fun _ h=>InGW.of (h.mono (by simp))) (Mod.refl _ _).drew ?_;refine stage_quiet 8 (by kernel_rfl) ?_;simp only[tA,tB,tC,tD];(repeat go_big_quiet_step (fail));refine wpQuiet_nil ?_;refine stage_put (fun w'=>Mod [a] W w'∧∃bs',MapIs w' a bs'∧bs'.Perm (((xo,xk),(m,c0-1))::without bs (xo,xk))) rfl rfl rfl rfl rfl (fun w' h=> ?_) (fun _ h=>InGW.of h.1) ?_
    ·obtain⟨w4,bs',hr,hM,hmd,hsz,hp⟩:=put_b (h2M.out.mod h (by simp)) hnod.out ((xo,xk),(m,c0-1));exact⟨w4,hr,(h.mono (by simp)).trans hmd,bs',hM,hp⟩
    simp only[Act.put];refine stage_nil fun W3 hm3=> ?_
    obtain⟨hm3,bs',hM3,hp3⟩:=hm3;have hm3H:=Lib.hid hm3;have hM3H:=Lib.hid hM3;have hp3H:=Lib.hid hp3;clear hm3 hM3 hp3 q1 q2;go_wp2_with fail;go_ret;exact⟨[b,a,c],rfl,LedAt.of (hm3H.out.at h2b.out (by simpa using hab'.out.symm)) hab'.out hcb'.out hac'.out hM3H.out (hp3H.out.trans (((hpH.out.filter _).cons _).trans (put_perm L _).symm)) ((hcs.out.mod hm2H.out (by simp)).mod hm3H.out (by simpa using hac'.out.symm)),(hm2H.out.mono (by simp)).then hm3H.out (fun x hx=>.inl (by simp at hx;simp[hx])),fun x hx=>.inl hx⟩
end Go.Proofs.YteidpgdfocjdbaaGreat.Bw
namespace Go.Proofs.YteidpgdfocjdbaaGreat.Tb
open Go Go.RowKit Go.Stg
attribute [local go_sem] Oper.semAt_some
theorem TAll_made (p:Option Addr) (w:World):Calls Tryz.prog 123 #[.pointer p] w fun e w'=>e=.returned (.func (.func 146) #[] #[.pointer (some ⟨w.heap.size,0,none⟩)])∧w'=w.alloc (.cells #[.pointer p] 78):=by
 go_enter Tryz.func123,Tryz.ntmps123;go_wp2;go_ret;exact⟨rfl,rfl⟩
def liveP (x:TS) (k:Nat):List (Int×Ent):=(List.range k).filterMap fun i=>if(slotN x.g.S i).2 then some ((i:Int),entN x.E i)else none
theorem liveP_dead {x:TS} {k:Nat} (h:(slotN x.g.S k).2=false):liveP x (k+1)=liveP x k:=by simp[liveP,List.range_succ,h]
theorem liveP_live {x:TS} {k:Nat} (h:(slotN x.g.S k).2=true):liveP x (k+1)=liveP x k++[((k:Int),entN x.E k)]:=by simp[liveP,List.range_succ,h]
theorem liveP_len (x:TS) (k:Nat):(liveP x k).length≤k:=by
 have:=List.length_filterMap_le (fun i=>if(slotN x.g.S i).2 then some ((i:Int),entN x.E i)else none) (List.range k);simpa[liveP]using this
theorem apart_or {a b:Option Nat} (h:∀y,a=some y→b≠some y):b=none∨b≠a:=by
 cases hb:b with
 |none=>exact .inl rfl
 |some y=>exact .inr fun e=>h y e.symm hb
def pslots (l:List (Int×Ent)):List Value:=l.map fun p=>.int .i64 p.1
def pent (p:Int×Ent):List Value:=ent p.2
theorem pent_length (p:Int×Ent):(pent p).length=5:=rfl
theorem TAllC_in (n':Nat) (hn':1≤n') (l Bs n₀:Nat) (Av:World→Nat→Prop) {n:Nat} {first:Int} {x:TS} {tb b pb:Nat} {ev sl:Value} {f:List Nat} (hI:TInv n first x) (hn:n≤4096) (J Jx:List (Int×Ent)→World→Prop)
  (hY:∀pre p W,J pre W→pre.length<(liveP x n).length→pre++[p]<+:liveP x n→YieldAt Fence.wide (n'-1) Tryz.prog l #[.int .i64 p.1,entV p.2] W fun e W'=>
   (e=.returned (.bool true)∧J (pre++[p]) W'∧Keeps n₀ Av W W')∨(e=.returned (.bool false)∧Jx (pre++[p]) W'))
  (W:World) (hn₀:n₀≤W.heap.size) (hBs:W.heap[Bs]? =some (.cells #[.pointer (some ⟨tb,0,none⟩)] 78 (0,0))) (hT:(tabC tb ev b pb sl first x).on W f)
  (hAv:∀W2 k,RowKit.Below W.heap.size W W2→W.heap.size≤k→Av W2 k) (hJ:AbidesFrom W.heap.size J) (h0:J [] W):
  CallsIn Fence.wide n' Tryz.prog 146 #[.func (.yield l) #[] #[],.pointer (some ⟨Bs,0,none⟩)] W fun e W'=>(∃v,e=.returned v)∧
   ((∃ys,ys=liveP x n∧J ys W')∨(∃pre,pre<+:liveP x n∧Jx pre W')):=by
 obtain⟨E,hA,hH⟩:=hT;have hS:=Scene.start hH;obtain⟨psv,hG⟩:=sc_gen 2 hS rfl;have hrow:=hS.row 1 rfl;have hblk:=hS.block 0 rfl;have hEl:E.length=n:=by rw[hA.1];exact hI.len
 have hSl:=hI.g.len;have hGH:=Lib.hid hG;have hrowH:=Lib.hid hrow;have hblkH:=Lib.hid hblk;have hBsH:=Lib.hid hBs;have hAH:=Lib.hid hA.2;have hYH:=Lib.hid hY;have hJH:=Lib.hid hJ;have h0H:=Lib.hid h0;have hAvH:=Lib.hid hAv;obtain⟨i5,hi5,hz0,hz1,hz2⟩:=info_parts info_entry;obtain⟨i1,hi1,hy0,hy1,hy2⟩:=info_parts info_int;have hcB:=cells_of hBs;clear hH hS hG hrow hblk hI hA hBs hY hJ h0 hAv;refine callsIn_of_wp Tryz.func146 rfl trivial ?_ rfl;simp only[Tryz.ntmps146,List.size_toArray,List.length_cons,List.length_nil,Nat.reduceAdd,Nat.reduceSub,Array.replicate_succ,Array.replicate_zero,List.push_toArray,List.append_toArray,List.nil_append,List.cons_append];gi_wp2_with fail;refine⟨trivial,(callsIn_wide.2 (tlive_ok hblkH.out)).mono ?_⟩;rintro e w1 ⟨rfl,hm1⟩;gi_wp2_with fail;refine⟨trivial,(callsIn_wide.2 (size_ok (hGH.out.mod hm1 (by simp)))).mono ?_⟩;rw[hSl];rintro e w2 ⟨rfl,hm2⟩;have hm2:=Lib.hid (hm1.nil_then hm2);clear hm1 hcB
 gi_wp2_with fail
 gi_loopw [13,3,4] (fun i sv lv wr=>∃k:Nat,k≤n∧i=.int .i64 k∧Mod [] W wr∧wr.ownsRow W.heap.size 3 1 sv (liveP x k).length (pslots (liveP x k))∧wr.ownsRow W.heap.size 119 5 lv (liveP x k).length (flat pent (liveP x k))∧∀y,sv.ownBlock=some y→lv.ownBlock≠some y) (fun i _ _ _=>n-(intOf i).toNat)
 case atStart=>exact⟨0,by omega,rfl,hm2.out,World.ownsRow_nil _ _ _ _,World.ownsRow_nil _ _ _ _,by simp[Value.ownBlock]⟩
 case round=>
  obtain⟨k,hk,rfl,hm,hsr,hlr,hap⟩:=hrel;have hmH:=Lib.hid hm;have hsrH:=Lib.hid hsr;have hlrH:=Lib.hid hlr;have hapH:=Lib.hid hap;clear hsr hlr hap hm2;by_cases hlt:k<n
  ·have hcB:=cells_of (hm.at hBsH.out (by simp));have hcT:=cells_of (hm.at hblkH.out (by simp));clear hm
   gi_wp2_with fail
   have hlv:=live_post (hGH.out.mod hmH.out (by simp)) (k:Int);rw[liveN_nat,Int.toNat_natCast]at hlv;have hgE:=hAH.out k;have hpd:=liveP_dead (x:=x) (k:=k);have hpl:=liveP_live (x:=x) (k:=k);have hlk:=liveP_len x k;generalize hsl:slotN x.g.S k=sl0 at*;rcases sl0 with⟨ge,le⟩
   simp only at hlv hgE hpd hpl;refine⟨trivial,(callsIn_wide.2 hlv).mono ?_⟩;rintro e w4 ⟨rfl,hm4⟩;have hm5:=Lib.hid (hmH.out.nil_then hm4);have hsr5:=Lib.hid (row_mod hsrH.out hm4 (by simp));have hlr5:=Lib.hid (row_mod hlrH.out hm4 (by simp));clear hlv hsl hcB hcT hsrH hlrH hmH hm4
   cases le with
   |false=>
    have hq:=hpd rfl;have hsr6:=hsr5.out;have hlr6:=hlr5.out;rw[←hq]at hsr6 hlr6;have hsr6:=Lib.hid hsr6;have hlr6:=Lib.hid hlr6;clear hq hpd hpl hgE
    gi_wp2_with fail
    go_roundw
    case rel=>exact⟨k+1,by omega,by go_num,hm5.out,hsr6.out,hlr6.out,hapH.out⟩
    case measure=>simp[intOf];omega
   |true=>
    have hE:=hgE rfl;rw[entN_at (by omega)]at hE;have hqH:=Lib.hid (hpl rfl);have hrow1:=row_mod hrowH.out hm5.out (by simp);obtain⟨g1,c1,rfl,_,_⟩:=row_pos hrow1 (by omega);obtain⟨eh,eo,et,ef,el,hen⟩:∃eh eo et ef el,entN x.E k=⟨eh,eo,et,ef,el⟩:=⟨_,_,_,_,_,rfl⟩;have hcells:∀w',Mod [] W w'→w'.cell? ⟨g1,k*5,none⟩=some (.int .u64 eh)∧w'.cell? ⟨g1,k*5+1,none⟩=some (.int .i64 eo)∧w'.cell? ⟨g1,k*5+2,none⟩=some (.int .i64 et)∧w'.cell? ⟨g1,k*5+3,none⟩=some (.int .i64 ef)∧w'.cell? ⟨g1,k*5+4,none⟩=some (.int .i64 el):=fun w' hm'=>by
     have hr:=row_mod hrowH.out hm' (by simp);have r0:=row_cell ent_length hr (show k<E.length by omega) rfl (k:=0) (by omega);have r1:=row_cell ent_length hr (show k<E.length by omega) rfl (k:=1) (by omega);have r2:=row_cell ent_length hr (show k<E.length by omega) rfl (k:=2) (by omega);have r3:=row_cell ent_length hr (show k<E.length by omega) rfl (k:=3) (by omega);have r4:=row_cell ent_length hr (show k<E.length by omega) rfl (k:=4) (by omega);rw[hE,hen]at r0 r1 r2 r3 r4;exact⟨r0,r1,r2,r3,r4⟩
    have hcellsH:=Lib.hid hcells;rw[hen]at hqH;have hb1:(liveP x k).length+1≤maxLen:=by unfold maxLen;omega
    have hb2:((liveP x k).length+1)*40≤140737488355328:=by omega
    have hb3:((liveP x k).length+1)*8≤140737488355328:=by omega
    have hw5:=hm5.out.size;clear hpd hpl hgE hE hen hrow1 hcells
    gi_wp2_with (first|(gi_at_builtin;refine wpListIn_append_row _ rfl _ _ 178 rfl W.heap.size 3 i1 (.int .i64 0) 1 8 Tryz.underlying178 hi1 hy0 hy1 hy2 rfl (by decide) u3 (liveP x k).length _ rfl (hsr5.out.alloc _) ⟨w4.heap.size,0,none⟩ 1 1 [.int .i64 k] rfl rfl (cells1 _ _ _) (by simp[Value.oneCell']) hb1 hb3 (by simp;omega) ?_;intro sv2 w6 hown1 hgrow1 hfr1;have hm6:=(hm5.out.alloc (.cells #[.int .i64 k] 3 (0,0))).grown hgrow1 (fun y hy=>.inr (hsr5.out.lt y hy).1);have hcB6:=cells_of (hm6.at hBsH.out (by simp));have hcT6:=cells_of (hm6.at hblkH.out (by simp));obtain⟨q0,q1,q2,q3,q4⟩:=hcellsH.out w6 hm6;obtain⟨g6,c6,rfl,_,_⟩:=row_pos hown1 (by omega);have hown1H:=Lib.hid hown1;have hm6H:=Lib.hid hm6;have hgrow1H:=Lib.hid hgrow1;have hfr1H:=Lib.hid hfr1;clear hown1 hm6 hgrow1 hfr1)|(gi_at_builtin;have hlr6:=(hlr5.out.alloc (.cells #[.int .i64 k] 3 (0,0))).kept hgrow1H.out (apart_or hapH.out);refine wpListIn_append_row _ rfl _ _ 151 rfl W.heap.size 119 i5 (entV ent0) 5 40 Tryz.underlying151 hi5 hz0 hz1 hz2 rfl (by decide) u4 (liveP x k).length _ rfl (hlr6.alloc _) ⟨w6.heap.size,0,none⟩ 1 1 (ent ⟨eh,eo,et,ef,el⟩) rfl rfl (cellsE _ _ _ _ rfl) (by simp[ent,Value.oneCell']) hb1 hb2 (by have:=hm6H.out.size;simp;omega) ?_;intro lv2 w7 hown2 hgrow2 hfr2;obtain⟨g7,c7,rfl,_,_⟩:=row_pos hown2 (by omega);have hlr6H:=Lib.hid hlr6;have hown2H:=Lib.hid hown2;have hgrow2H:=Lib.hid hgrow2;have hfr2H:=Lib.hid hfr2;clear hown2 hgrow2 hfr2 hlr6))
    go_roundw
    case rel=>
     have hs1:=hown1H.out.lt g6 rfl;have hs7:=hown2H.out.lt g7 rfl;have hs4:∀y,u4.ownBlock=some y→y<w4.heap.size:=fun y hy=>(hlr5.out.lt y hy).2
     have hne:(Value.slice (some ⟨g6,0,none⟩) ((liveP x k).length+1) c6).ownBlock≠u4.ownBlock:=fun e=>by
      have e':u4.ownBlock=some g6:=e.symm;rcases hfr1H.out g6 rfl with h|h
      ·exact hapH.out g6 h e'
      ·have:=hs4 g6 e';simp at h;omega
     refine⟨k+1,by omega,by go_num,(hm6H.out.alloc _).grown hgrow2H.out (fun y hy=>.inr (hlr6H.out.lt y hy).1),?_,?_,fun y hy e=> ?_⟩
     ·rw[hqH.out,List.length_append];unfold pslots;rw[List.map_append];exact(hown1H.out.alloc _).kept hgrow2H.out (.inr hne)
     ·rw[hqH.out,List.length_append,flat_append,flat_one];exact hown2H.out
     ·simp[Value.ownBlock]at hy e;subst hy;subst e;rcases hfr2H.out g7 rfl with h|h
      ·exact hne h.symm
      ·simp at h;omega
    case measure=>simp[intOf];omega
  ·obtain rfl:k=n:=by omega
   have hb:=hm.below;have hJ1:J [] wr:=hJH.out _ _ _ none h0H.out ⟨hb.os,hb.tape,hb.output,hb.size,fun k hk _=>hb.block k hk⟩ (by simp);have hav1:∀g,u3.ownBlock=some g→n₀≤g∧Av wr g:=fun g hg=>⟨Nat.le_trans hn₀ (hsrH.out.lt g hg).1,hAvH.out wr g hb (hsrH.out.lt g hg).1⟩
   have hav2:∀g,u4.ownBlock=some g→n₀≤g∧Av wr g:=fun g hg=>⟨Nat.le_trans hn₀ (hlrH.out.lt g hg).1,hAvH.out wr g hb (hlrH.out.lt g hg).1⟩
   have hpn:=liveP_len x k;have hln:=fun ty w'=>row_len (ty:=ty) Tryz.underlying178 hsrH.out w'
   generalize hP:liveP x k=P at*;have hPH:=Lib.hid hP;clear hP;clear hb hm
   gi_wp2_with fail
   gi_loopw [43] (fun i wr2=>∃q:Nat,q≤P.length∧i=.int .i64 q∧J (P.take q) wr2∧wr2.ownsRow W.heap.size 3 1 u3 P.length (pslots P)∧wr2.ownsRow W.heap.size 119 5 u4 P.length (flat pent P)∧(∀g,u3.ownBlock=some g→n₀≤g∧Av wr2 g)∧∀g,u4.ownBlock=some g→n₀≤g∧Av wr2 g) (fun i _=>P.length-(intOf i).toNat)
   case atStart=>exact⟨0,Nat.zero_le _,rfl,hJ1,hsrH.out,hlrH.out,hav1,hav2⟩
   case round=>
    obtain⟨q,hq,rfl,hJs,hr1,hr2,ha1,ha2⟩:=hrel;clear hsrH hlrH hJ1 hav1 hav2 hmH hapH;by_cases hltq:q<P.length
    ·obtain⟨g1,c1,rfl,_,_⟩:=row_pos hr1 (by omega);obtain⟨g2,c2,rfl,_,_⟩:=row_pos hr2 (by omega);have hc:=hr1.cellAt q (by omega);unfold pslots at hc;rw[List.getElem?_map,List.getElem?_eq_getElem hltq]at hc;simp only[Option.map_some]at hc;have r0:=row_cell pent_length hr2 hltq rfl (k:=0) (by omega);have r1:=row_cell pent_length hr2 hltq rfl (k:=1) (by omega);have r2:=row_cell pent_length hr2 hltq rfl (k:=2) (by omega);have r3:=row_cell pent_length hr2 hltq rfl (k:=3) (by omega);have r4:=row_cell pent_length hr2 hltq rfl (k:=4) (by omega);have htk:P.take q++[P[q]]=P.take (q+1):=by rw[List.take_add_one,List.getElem?_eq_getElem hltq];rfl
     obtain⟨fn,tmps,assign,body,hy,hR⟩:=hYH.out _ P[q] wr hJs (by rw[List.length_take];omega) (by rw[htk];exact List.take_prefix _ _);rw[htk]at hR;have hr1H:=Lib.hid hr1;have hr2H:=Lib.hid hr2;have ha1H:=Lib.hid ha1;have ha2H:=Lib.hid ha2;clear htk hr1 hr2 ha1 ha2 hJs;generalize P[q]=p at*;rcases p with⟨ps,eh,eo,et,ef,el⟩
     simp only[pent,ent,List.getElem?_cons_zero,List.getElem?_cons_succ,Nat.add_zero]at hc r0 r1 r2 r3 r4;unfold entV at hy;simp only at hy;clear hYH
     gi_wp2_with fail
     refine hR.mono ?_;rintro e W3 (⟨rfl,hJ3,hk3⟩|⟨rfl,hJx3⟩)
     ·clear hc r0 r1 r2 r3 r4;have hJ3:=Lib.hid hJ3
      gi_wp2_with fail
      go_roundw
      case rel=>
       have keep:∀ {e:TypeId} {sz:Nat} {xs:List Value} {g c:Nat},wr.ownsRow W.heap.size e sz (.slice (some ⟨g,0,none⟩) P.length c) P.length xs→n₀≤g→Av wr g→W3.ownsRow W.heap.size e sz (.slice (some ⟨g,0,none⟩) P.length c) P.length xs∧Av W3 g:=fun {e sz xs g c} hr h1 h2=>by
        refine⟨row_same hr (fun g' cs fr hg hb=> ?_),?_⟩
        ·have hk':some g=some g':=hg;obtain rfl:=Option.some.inj hk';exact(hk3.2 g cs _ fr h1 h2 hb).1
        ·rcases hr.2 with⟨h,_⟩|⟨g2,cap2,cur,h,h3,h4,_⟩
         ·simp at h
         ·simp at h;obtain⟨rfl,rfl⟩:=h;exact(hk3.2 g _ _ _ h1 h2 h4).2
       obtain⟨k1,k2⟩:=keep hr1H.out (ha1H.out g1 rfl).1 (ha1H.out g1 rfl).2;obtain⟨k3,k4⟩:=keep hr2H.out (ha2H.out g2 rfl).1 (ha2H.out g2 rfl).2;refine⟨q+1,by omega,by go_num,hJ3.out,k1,k3,fun g hg=> ?_,fun g hg=> ?_⟩
       ·have hk':some g1=some g:=hg;obtain rfl:=Option.some.inj hk';exact⟨(ha1H.out g1 rfl).1,k2⟩
       ·have hk':some g2=some g:=hg;obtain rfl:=Option.some.inj hk';exact⟨(ha2H.out g2 rfl).1,k4⟩
      case measure=>simp[intOf];omega
     ·clear hc r0 r1 r2 r3 r4
      gi_wp2_with fail
      refine bodyPost_ret (results_none rfl _ _ _) rfl ?_;exact⟨⟨_,rfl⟩,.inr ⟨_,by rw[hPH.out];exact List.take_prefix (q+1) P,hJx3⟩⟩
    ·obtain rfl:q=P.length:=by omega
     gi_wp2_with fail
     go_end0;exact⟨⟨_,rfl⟩,.inl ⟨P,hPH.out.symm,by simpa using hJs⟩⟩
end Go.Proofs.YteidpgdfocjdbaaGreat.Tb
