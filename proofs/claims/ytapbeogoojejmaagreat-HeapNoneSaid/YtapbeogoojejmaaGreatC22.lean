/- Joined contracts. No conditions. -/
import Derived.Test.YtapbeogoojejmaaGreatProg
import Derived.Test.YtapbeogoojejmaaGreatCS
import Derived.Test.YtapbeogoojejmaaGreatC11
import Derived.Test.YtapbeogoojejmaaGreatC18
import Derived.Test.YtapbeogoojejmaaGreatC21
set_option maxHeartbeats 1600000
set_option maxRecDepth 20000
namespace Go.Proofs.YtapbeogoojejmaaGreat.Bw
open Go Go.RowKit Go.Stg
theorem del_any {w:World} {c ck:Nat} {es:Array MapEntry} {o:Int} (ty:TypeId) (hb:w.heap[c]? =some (.map es ck)) (h:IKeys es.toList):∃w',(Builtin.delete_ #[206,3] ty #[.map (some c),.int .i64 o]).run Tryz.prog w=.ok (.tuple #[]) w'∧w'.heap[c]? =some (.map (mdel o es) ck)∧Mod [c] w w':=
 ⟨_,run_delete_int Tryz.underlying206 Tryz.underlying3 hb h o #[206,3] rfl,at_setMap hb,(Mod.refl _ w).setMap (.inl (by simp)) _⟩
theorem remove_ok {w:World} {b:Nat} {L:List Bor} {f:List Nat} (h:(ledC b L).on w f) (hS:Srt L) (hl:L.length≤1000000) {x:Bor} (yo yh ym yc:Int) (hg:getB L (yo,yh)=some x):
  Calls Tryz.prog 127 #[.pointer (some ⟨b,0,none⟩),.agg #[.int .i64 yo,.int .i64 yh,.int .i64 ym,.int .i64 yc]] w (Takes (ledC b (without L (yo,yh))) (.tuple #[]) w f):=by
 rcases h with⟨hb,hL,rfl⟩|⟨a,c,bs,hb,hab,hcb,hac,hM,hp,hC,rfl⟩
 ·subst hL;cases hg
 ·obtain⟨es,ck,hc,hCA⟩:=hC.at;have hse:=Lib.hid fun q=>ofO_without hS.nodup hg q
  have hnod:=Lib.hid (((hp.map (·.1)).nodup_iff).2 hS.nodup);have hol:(ofO L yo).length≤L.length:=List.length_filter_le _ _;have hlk:=hCA.get yo;have hn1:1≤(ofO L yo).length:=by have:=ofO_without hS.nodup hg yo;rw[if_pos rfl]at this;omega
  obtain⟨n,hn⟩:∃n:Int,n=((ofO L yo).length:Nat):=⟨_,rfl⟩;have hnb:1≤n∧n≤1000000:=by omega
  rw[←hn]at hlk;have hlkH:=Lib.hid hlk;have hnH:=Lib.hid hn;have hpH:=Lib.hid hp;have hCAH:=Lib.hid hCA;have h1b:=Lib.hid (at_alloc_old (o:=.cells #[.int .i64 yo,.int .i64 yh,.int .i64 ym,.int .i64 yc] 126) hb);have h1y:=Lib.hid (at_alloc w (.cells #[.int .i64 yo,.int .i64 yh,.int .i64 ym,.int .i64 yc] 126));have h1M:=Lib.hid (hM.mod ((Mod.refl [] w).alloc (.cells #[.int .i64 yo,.int .i64 yh,.int .i64 ym,.int .i64 yc] 126)) (by simp));have h1c:=Lib.hid (at_alloc_old (o:=.cells #[.int .i64 yo,.int .i64 yh,.int .i64 ym,.int .i64 yc] 126) hc);have h1m:=Lib.hid ((Mod.refl [b,a,c] w).alloc (.cells #[.int .i64 yo,.int .i64 yh,.int .i64 ym,.int .i64 yc] 126));have hay:=hM.lt;have hcy:=lt_of hc;have hab':=Lib.hid hab;have hcb':=Lib.hid hcb;have hac':=Lib.hid hac;clear hS hg hp hCA hlk hn hb hM hC hc hol hn1 hl hab hcb hac;have hab:=Lib.hid hab'.out;have hcb:=Lib.hid hcb'.out;have hac:=Lib.hid hac'.out;clear hab' hcb' hac';go_enter Tryz.func127,Tryz.ntmps127;go_wp2_with fail;generalize hyb:w.heap.size=y at*;generalize w.alloc (.cells #[.int .i64 yo,.int .i64 yh,.int .i64 ym,.int .i64 yc] 126)=W0 at*;have q1:=GW.cells (S:=[a]) h1b.out (by simpa using hab.out.symm);have q2:=GW.cells (S:=[a]) h1y.out (by simpa using Nat.ne_of_gt hay);refine wp_region_stage (fun w'=>∃x:GW [a] W0,w'=x.1) (fun w'=>Mod [] W0 w') (by kernel_rfl) (by kernel_rfl) (fun _ h=>InGW.of (h.mono (by simp))) (Mod.refl _ _).drew ?_;refine stage_quiet 9 (by kernel_rfl) ?_;simp only[tA,tB,tC,tD];(repeat go_big_quiet_step (fail));refine wpQuiet_nil ?_;refine stage_del (fun w'=>Mod [a] W0 w'∧∃bs',MapIs w' a bs'∧bs'.Perm (without bs (yo,yh))) rfl rfl rfl rfl (fun w' h=> ?_) (fun _ h=>InGW.of h.1) ?_
  ·obtain⟨w4,bs',hr,hM,hmd,hsz,hp⟩:=del_b (h1M.out.mod h (by simp)) hnod.out (yo,yh) _;exact⟨w4,hr,(h.mono (by simp)).trans hmd,bs',hM,hp⟩
  simp only[Act.put];refine stage_nil fun W1 hm1=> ?_
  obtain⟨hm1,bs1,hM1,hp1⟩:=hm1;have hmAA:=Lib.hid hm1;have h2b:=Lib.hid (hm1.at h1b.out (by simpa using hab.out.symm));have h2y:=Lib.hid (hm1.at h1y.out (by simpa using Nat.ne_of_gt hay));have h2c:=Lib.hid (hm1.at h1c.out (by simpa using hac.out.symm));have h2M:=Lib.hid hM1;have hp1H:=Lib.hid hp1;have h2m:=Lib.hid (h1m.out.then hm1 (fun x hx=>.inl (by simp at hx;simp[hx])));clear q1 q2 hm1 hM1 hp1 hmAA h1b h1y h1c h1m h1M;go_wp2_with fail;have q1:=GW.cells (S:=[]) h2b.out (by simp);have q2:=GW.cells (S:=[]) h2y.out (by simp);have q3:∀x:GW [] W1,(Instr.lookup 206 (.map (some c)) (.int .i64 yo) false).run Tryz.prog x.1=.ok (.int .i64 n) x.1:=fun x=>by
   rw[run_lookup_int Tryz.underlying206 Tryz.underlying3 Tryz.zeroValue3 (x.2.at h2c.out (by simp)) hCAH.out.1,hlkH.out]
  refine wp_region_stage (fun w'=>∃x:GW [] W1,w'=x.1) (fun w'=>Mod [] W1 w') (by kernel_rfl) (by kernel_rfl) (fun _ h=>InGW.of h) (Mod.refl _ _).drew ?_;refine stage_quiet 8 (by kernel_rfl) ?_;simp only[tA,tB,tC,tD];(repeat go_big_quiet_step (fail));refine wpQuiet_nil ?_;refine stage_putLast (fun w'=>Mod [c] W1 w'∧w'.heap[c]? =some (.map (mput yo (.int .i64 (n-1)) ck es).1 (mput yo (.int .i64 (n-1)) ck es).2)) rfl rfl (by kernel_rfl) rfl rfl rfl rfl (fun w' h=> ?_) ?_
  ·obtain⟨w4,hr,h4,hmd,_⟩:=upd_any (o:=yo) (n:=n-1) (h.at h2c.out (by simp)) hCAH.out.1;exact⟨w4,hr,(h.mono (by simp)).trans hmd,h4⟩
  rintro W2 ⟨hm2,hc2⟩;have h3b:=Lib.hid (hm2.at h2b.out (by simpa using hcb.out.symm));have h3y:=Lib.hid (hm2.at h2y.out (by simpa using Nat.ne_of_gt hcy));have h3c:=Lib.hid hc2;have h3M:=Lib.hid (h2M.out.mod hm2 (by simpa using hac.out));have h3m:=Lib.hid (h2m.out.then hm2 (fun x hx=>.inl (by simp at hx;simp[hx])));have hk3:=mput_spec yo (.int .i64 (n-1)) ck es hCAH.out.1;have hk3H:=Lib.hid hk3;clear q1 q2 q3 hm2 hc2 h2b h2y h2c h2m h2M hk3;go_wp2_with fail;have q1:=GW.cells (S:=[]) h3b.out (by simp);have q2:=GW.cells (S:=[]) h3y.out (by simp);have q3:∀x:GW [] W2,(Instr.lookup 206 (.map (some c)) (.int .i64 yo) false).run Tryz.prog x.1=.ok (.int .i64 (n-1)) x.1:=fun x=>by
   rw[run_lookup_int Tryz.underlying206 Tryz.underlying3 Tryz.zeroValue3 (x.2.at h3c.out (by simp)) hk3H.out.1,hk3H.out.2,if_pos rfl];rfl
  by_cases h1:n=1
  ·subst h1;refine wp_region_pure (by kernel_rfl) (by kernel_rfl) ?_;refine stage_quiet 8 (by kernel_rfl) ?_;simp only[tA,tB,tC,tD];(repeat go_big_quiet_step (fail));refine wpQuiet_nil ?_;refine stage_nil fun W3 hm3=> ?_
   have h4b:=Lib.hid (hm3.at h3b.out (by simp));have h4y:=Lib.hid (hm3.at h3y.out (by simp));have h4c:=Lib.hid (hm3.at h3c.out (by simp));have h4M:=Lib.hid (h3M.out.mod hm3 (by simp));have h4m:=Lib.hid (h3m.out.nil_then hm3);clear q1 q2 q3 hm3 h3b h3y h3c h3m h3M;go_wp2_with fail;have q1:=GW.cells (S:=[c]) h4b.out (by simpa using hcb.out.symm);have q2:=GW.cells (S:=[c]) h4y.out (by simpa using Nat.ne_of_gt hcy);refine wp_region_stage (fun w'=>∃x:GW [c] W3,w'=x.1) (fun w'=>Mod [] W3 w') (by kernel_rfl) (by kernel_rfl) (fun _ h=>InGW.of (h.mono (by simp))) (Mod.refl _ _).drew ?_;refine stage_quiet 6 (by kernel_rfl) ?_;simp only[tA,tB,tC,tD];(repeat go_big_quiet_step (fail));refine wpQuiet_nil ?_;refine stage_del (fun w'=>Mod [c] W3 w'∧w'.heap[c]? =some (.map (mdel yo (mput yo (.int .i64 (1-1)) ck es).1) (mput yo (.int .i64 (1-1)) ck es).2)) rfl rfl rfl rfl (fun w' h=> ?_) (fun _ h=>InGW.of h.1) ?_
   ·obtain⟨w4,hr,h4,hmd⟩:=del_any (o:=yo) _ (h.at h4c.out (by simp)) hk3H.out.1;exact⟨w4,hr,(h.mono (by simp)).trans hmd,h4⟩
   simp only[Act.put];refine stage_nil fun W4 hm4=> ?_
   obtain⟨hm4,hc4⟩:=hm4;have hbF:=Lib.hid (hm4.at h4b.out (by simpa using hcb.out.symm));have hMF:=Lib.hid (h4M.out.mod hm4 (by simpa using hac.out));have hmFF:=Lib.hid (h4m.out.then hm4 (fun x hx=>.inl (by simp at hx;simp[hx])));have hcF:=Lib.hid hc4;clear q1 q2 hm4 hc4;go_wp2_with fail;go_end0;have hcnt:=hCAH.out.last (o:=yo) hse.out ck (.int .i64 (1-1)) (by have:=hnH.out;omega);refine⟨[b,a,c],rfl,LedAt.of hbF.out hab.out hcb.out hac.out hMF.out (hp1H.out.trans (hpH.out.filter _)) (hcnt.is hcF.out),hmFF.out,fun x hx=>.inl hx⟩
  ·have z:(n-1==0)=false:=by simp;omega
   refine wp_region_pure (by kernel_rfl) (by kernel_rfl) ?_;refine stage_quiet 8 (by kernel_rfl) ?_;simp only[tA,tB,tC,tD];(repeat go_big_quiet_step (fail));refine wpQuiet_nil ?_;refine stage_nil fun W3 hm3=> ?_
   have hbF:=Lib.hid (hm3.at h3b.out (by simp));have hcF:=Lib.hid (hm3.at h3c.out (by simp));have hMF:=Lib.hid (h3M.out.mod hm3 (by simp));have hmFF:=Lib.hid (h3m.out.nil_then hm3);clear q1 q2 q3 hm3;go_wp2_with fail;go_end0;have hcnt:=hCAH.out.less (o:=yo) hse.out ck (n:=n-1) (by have:=hnH.out;omega) (by omega);refine⟨[b,a,c],rfl,LedAt.of hbF.out hab.out hcb.out hac.out hMF.out (hp1H.out.trans (hpH.out.filter _)) (hcnt.is hcF.out),hmFF.out,fun x hx=>.inl hx⟩
end Go.Proofs.YtapbeogoojejmaaGreat.Bw
namespace Go
namespace Stg
theorem Scene.own {c:Comp} {w:World} {f:List Nat} (h:c.on w f):Scene f w [c] w:=by
 have:=Scene.start (cs:=[c]) (w:=w) (fp:=f++[]) ⟨f,[],h,rfl,by simp,rfl⟩
 rwa [List.append_nil]at this
theorem Scene.takes {c':Comp} {w w':World} {f:List Nat} {v:Value} (h:Scene f w [c'] w'):Takes c' v w f (.returned v) w':=by
 obtain⟨h1,fp,⟨f',g,k1,k2,_,rfl⟩,h3⟩:=h;exact⟨f',rfl,k1,h1,fun x hx=>h3 x (List.mem_append_left _ hx)⟩
end Stg
end Go
namespace Go.Proofs.YtapbeogoojejmaaGreat.Bw
open Go Go.RowKit Go.Stg
theorem relE_some {L:List Bor} {k:Int×Int} {x:Bor} (h:getB L k=some x):relE L k=0:=by unfold relE;rw[h]
theorem relE_none {L:List Bor} {k:Int×Int} (h:getB L k=none):relE L k=13:=by unfold relE;rw[h]
theorem relL_none {L:List Bor} {k:Int×Int} (h:getB L k=none):relL L k=L:=by unfold relL;rw[h]
theorem relL_last {L:List Bor} {k:Int×Int} {m:Int} (h:getB L k=some (k,(m,1))):relL L k=without L k:=by unfold relL;rw[h];rfl
theorem relL_less {L:List Bor} {k:Int×Int} {m c:Int} (h:getB L k=some (k,(m,c))) (hc:c≠1):relL L k=putB L (k,(m,c-1)):=by unfold relL;rw[h];simp[hc]
theorem release_ok {w:World} {b:Nat} {L:List Bor} {f:List Nat} (h:(ledC b L).on w f) {N:Int} (hI:LInv N L) (hN:N≤1000000) (hl:L.length≤1000000) (o k:Int):
  Calls Tryz.prog 81 #[.pointer (some ⟨b,0,none⟩),.int .i64 o,.int .i64 k] w (Takes (ledC b (relL L (o,k))) (.int .i64 (relE L (o,k))) w f):=by
 have hho:=holds_ok (LedV.of h) hI.srt o k
 cases hg:getB L (o,k)with
 |none=>
  rw[hg]at hho;rw[relE_none hg,relL_none hg];have hhoH:=Lib.hid hho;have hhH:=Lib.hid h;clear hho h hI hg;go_enter Tryz.func81,Tryz.ntmps81;go_wp2_with fail;refine hhoH.out.mono ?_;unfold foundV bv b0;rintro e w1 ⟨rfl,hm1⟩;have hm1H:=Lib.hid hm1;clear hm1;go_wp2_with fail;go_ret;exact Takes.same hhH.out (by repeat (first|exact hm1H.out|refine Mod.alloc ?_ _))
 |some x=>
  obtain⟨⟨xo,xk⟩,m,c0⟩:=x;have hk:=(getB_some hg).2;simp only[Prod.mk.injEq]at hk;obtain⟨rfl,rfl⟩:=hk;have h1:=hI.one _ (getB_some hg).1;simp only at h1;rw[hg]at hho;rw[relE_some hg];have hhoH:=Lib.hid hho;have hgH:=Lib.hid hg;have hs:=Lib.hid hI.srt;by_cases hc1:c0=1
  ·subst hc1;rw[relL_last hg];have hhH:=Lib.hid h;clear hho h hI hg;go_enter Tryz.func81,Tryz.ntmps81;go_wp2_with fail;refine hhoH.out.mono ?_;unfold foundV bv;rintro e w1 ⟨rfl,hm1⟩;have hm2:=hm1.alloc (.cells #[.int .i64 xo,.int .i64 xk,.int .i64 m,.int .i64 0] 126);have hm2H:=Lib.hid hm2;clear hm1 hm2;go_wp2_with fail;refine(remove_ok ((ledC b L).keep hhH.out hm2H.out (by simp)) hs.out hl xo xk m 0 hgH.out).mono ?_;rintro e w3 ⟨f',rfl,k1,k2,k3⟩;have hfin:Hid (Takes (ledC b (without L (xo,xk))) (.int .i64 0) w f (.returned (.int .i64 0)) w3):=Lib.hid ⟨f',rfl,k1,(hm2H.out.mono (by simp)).then k2 (fun x hx=>.inl hx),fun x hx=>(k3 x hx).imp id (fun h=>Nat.le_trans hm2H.out.size h)⟩;clear k1 k2 k3;go_wp2_with fail;go_ret;exact hfin.out
  ·rw[relL_less hg hc1];have hz:(c0-1==0)=false:=by simp;omega
   rcases h with⟨hb,hL,rfl⟩|⟨a,c,bs,hb,hab,hcb,hac,hM,hp,hC,rfl⟩
   ·subst hL;cases hg
   ·have hcs:=Lib.hid (hC.same fun q=>ofO_put_old hI.srt.nodup (b:=((xo,xk),(m,c0-1))) hg q);have hnod:=Lib.hid (((hp.map (·.1)).nodup_iff).2 hI.srt.nodup);have hbH:=Lib.hid hb;have hMH:=Lib.hid hM;have hpH:=Lib.hid hp;have hab':=Lib.hid hab;have hcb':=Lib.hid hcb;have hac':=Lib.hid hac;have hay:=Lib.hid hM.lt;clear hho hI hg hb hM hp hC hab hcb hac;go_enter Tryz.func81,Tryz.ntmps81;go_wp2_with fail;refine hhoH.out.mono ?_;unfold foundV bv;rintro e w1 ⟨rfl,hm1⟩;have hm2:=hm1.alloc (.cells #[.int .i64 xo,.int .i64 xk,.int .i64 m,.int .i64 (c0-1)] 126);have hbox:=at_alloc w1 (.cells #[.int .i64 xo,.int .i64 xk,.int .i64 m,.int .i64 (c0-1)] 126);have hsz:=hm1.size;have hm2H:=Lib.hid hm2;have hboxH:=Lib.hid hbox;clear hm1 hm2 hbox;go_wp2_with fail;generalize hss:w1.heap.size=s at*;generalize w1.alloc (.cells #[.int .i64 xo,.int .i64 xk,.int .i64 m,.int .i64 (c0-1)] 126)=W at*;have h2b:=Lib.hid (hm2H.out.at hbH.out (by simp));have h2M:=Lib.hid (hMH.out.mod hm2H.out (by simp));have q1:=GW.cells (S:=[a]) h2b.out (by simpa using hab'.out.symm);have q2:=GW.cells (S:=[a]) hboxH.out (by simpa using Nat.ne_of_gt (Nat.lt_of_lt_of_le hay.out hsz));refine wp_region_stage (fun w'=>∃x:GW [a] W,w'=x.1) (fun w'=>Mod [] W w') (by kernel_rfl) (by kernel_rfl) (fun _ h=>InGW.of (h.mono (by simp))) (Mod.refl _ _).drew ?_;refine stage_quiet 8 (by kernel_rfl) ?_;simp only[tA,tB,tC,tD];(repeat go_big_quiet_step (fail));refine wpQuiet_nil ?_;refine stage_put (fun w'=>Mod [a] W w'∧∃bs',MapIs w' a bs'∧bs'.Perm (((xo,xk),(m,c0-1))::without bs (xo,xk))) rfl rfl rfl rfl rfl (fun w' h=> ?_) (fun _ h=>InGW.of h.1) ?_
    ·obtain⟨w4,bs',hr,hM,hmd,hsz,hp⟩:=put_b (h2M.out.mod h (by simp)) hnod.out ((xo,xk),(m,c0-1));exact⟨w4,hr,(h.mono (by simp)).trans hmd,bs',hM,hp⟩
    simp only[Act.put];refine stage_nil fun W3 hm3=> ?_
    obtain⟨hm3,bs',hM3,hp3⟩:=hm3;have hm3H:=Lib.hid hm3;have hM3H:=Lib.hid hM3;have hp3H:=Lib.hid hp3;clear hm3 hM3 hp3 q1 q2;go_wp2_with fail;go_ret;exact⟨[b,a,c],rfl,LedAt.of (hm3H.out.at h2b.out (by simpa using hab'.out.symm)) hab'.out hcb'.out hac'.out hM3H.out (hp3H.out.trans (((hpH.out.filter _).cons _).trans (put_perm L _).symm)) ((hcs.out.mod hm2H.out (by simp)).mod hm3H.out (by simpa using hac'.out.symm)),(hm2H.out.mono (by simp)).then hm3H.out (fun x hx=>.inl (by simp at hx;simp[hx])),fun x hx=>.inl hx⟩
end Go.Proofs.YtapbeogoojejmaaGreat.Bw
namespace Go.Proofs.YtapbeogoojejmaaGreat
open Go Go.RowKit Go.Stg
open Ty (FieldsAt fields_get)
def properB (e:Ext):Bool:=decide (0≤e.1)&&(decide (0<e.2)&&(decide (e.2≤1048576)&&decide (e.1≤1048576-e.2)))
theorem properB_iff (e:Ext):properB e=true↔proper e:=by unfold properB proper;simp;omega
theorem proper_any (o l:Int) (w:World):Calls Tryz.prog 186 #[.agg #[.int .i64 o,.int .i64 l]] w fun e w'=>e=.returned (.bool (properB (o,l)))∧Mod [] w w':=by
 go_enter Tryz.func186,Tryz.ntmps186;go_wp2
 all_goals go_ret
 all_goals refine⟨?_,(Mod.refl _ _).alloc _⟩
 all_goals (first|(simp_all [properB];done)|(simp[properB];intros;omega))
theorem end_any (o l:Int) (h0: -1000000000000≤o+l) (h1:o+l≤1000000000000) (w:World):Calls Tryz.prog 188 #[.agg #[.int .i64 o,.int .i64 l]] w fun e w'=>e=.returned (.int .i64 (o+l))∧Mod [] w w':=by
 go_enter Tryz.func188,Tryz.ntmps188;go_wp2;go_ret;exact⟨rfl,(Mod.refl _ _).alloc _⟩
theorem end_of {e:Ext} (h:proper e) (w:World):Calls Tryz.prog 188 #[.agg #[.int .i64 e.1,.int .i64 e.2]] w fun r w'=>r=.returned (.int .i64 (e.1+e.2))∧Mod [] w w':=by
 unfold proper at h;exact end_any e.1 e.2 (by omega) (by omega) w
theorem exts_len {w0:World} {v:Value} {s:List Ext} (h:FieldsAt w0 v s) (ty:TypeId) (w:World):(Builtin.len_ #[65] ty #[v]).run Tryz.prog w=.ok (.int .i64 s.length) w:=by
 rcases h with⟨rfl,rfl⟩|⟨sb,so,cap,rfl,_⟩<;>simp[Builtin.len_,run_underlying Tryz.underlying65,goInt]
theorem exts_slice {w:World} {v:Value} {s:List Ext} (h:FieldsAt w v s):∃a m c,v=.slice a m c:=by
 rcases h with⟨rfl,_⟩|⟨sb,so,cap,rfl,_⟩<;>exact⟨_,_,_,rfl⟩
theorem valid_yes {v:Value} {s:List Ext} {w:World} (h:FieldsAt w v s) (hs:VS s):Calls Tryz.prog 185 #[v] w fun e w'=>e=.returned (.bool true)∧Mod [] w w':=by
 have hln:=fun ty w=>exts_len h ty w
 have hsm:=h.small;have hH:=Lib.hid h;have hsH:=Lib.hid hs;clear h hs;go_enter Tryz.func185,Tryz.ntmps185;go_wp2_with fail;go_loopw [7] (fun i wr=>∃k:Nat,k≤s.length∧i=.int .i64 k∧Mod [] w wr) (fun i _=>s.length-(intOf i).toNat)
 case atStart=>exact⟨0,by omega,rfl,Mod.refl _ _⟩
 case round=>
  obtain⟨k,hk,rfl,hm⟩:=hrel;by_cases hlt:k<s.length
  ·have hg:=fields_get (hH.out.mod hm) hlt;obtain⟨sb,so,cap,rfl,hb,c0,c1⟩:=hg;have hp:=hsH.out.1 s[k] (List.getElem_mem hlt);have hpB:=(properB_iff s[k]).2 hp;have hm2:=hm.alloc (.cells #[.int .i64 s[k].1,.int .i64 s[k].2] 104);have hx:=at_alloc wr (.cells #[.int .i64 s[k].1,.int .i64 s[k].2] 104);have hpre:0<k→∃c d:Int,(wr.alloc (.cells #[.int .i64 s[k].1,.int .i64 s[k].2] 104)).cell? ⟨sb,so+(k-1)*2,none⟩=some (.int .i64 c)∧(wr.alloc (.cells #[.int .i64 s[k].1,.int .i64 s[k].2] 104)).cell? ⟨sb,so+(k-1)*2+1,none⟩=some (.int .i64 d)∧proper (c,d)∧c+d<s[k].1:=fun h0=>by
    obtain⟨sb',so',cap',e,_,d0,d1⟩:=fields_get (hH.out.mod hm2) (show k-1<s.length by omega);cases e;exact⟨_,_,d0,d1,hsH.out.1 _ (List.getElem_mem _),List.pairwise_iff_getElem.1 hsH.out.2 (k-1) k (by omega) hlt (by omega)⟩
   have hbl:sb<(wr.alloc (.cells #[.int .i64 s[k].1,.int .i64 s[k].2] 104)).heap.size:=by simp;omega
   generalize s[k]=x at*;obtain⟨xo,xl⟩:=x;simp only at c0 c1 hp hpre hx hm2 hpB hbl;have hmH:=Lib.hid hm2;have hxH:=Lib.hid hx;have hpreH:=Lib.hid hpre;have hblH:=Lib.hid hbl;clear hm hm2 hx hpre hbl hb;go_wp2_with fail;clear c0 c1;generalize wr.heap.size=bx at*;generalize wr.alloc (.cells #[.int .i64 xo,.int .i64 xl] 104)=W2 at*;have k1:=GW.cells (S:=[]) hxH.out (by simp);by_cases h0:k=0
   ·subst h0;refine wp_region_pure (by kernel_rfl) (by kernel_rfl) ?_;refine stage_quiet 1 (by kernel_rfl) ?_;simp only[tA,tB,tC,tD];(repeat go_big_quiet_step (fail));refine wpQuiet_nil ?_;refine stage_pure 186 _ (.bool true) rfl Tryz.call186 rfl rfl (fun w' _=>(proper_any xo xl w').mono fun e w'' ⟨he,hm⟩=>⟨by rw[he,hpB],hm⟩) ?_;simp only[Act.put,sA,sB,sC];refine stage_quiet 12 (by kernel_rfl) ?_;simp only[tA,tB,tC,tD];(repeat go_big_quiet_step (fail));refine wpQuiet_nil ?_;refine stage_skip rfl ?_;simp only[Act.put,sA,sB,sC];refine stage_quiet 3 (by kernel_rfl) ?_;simp only[tA,tB,tC,tD];(repeat go_big_quiet_step (fail));refine wpQuiet_nil ?_;refine stage_nil fun w5 hm5=> ?_
    have hm6:=Lib.hid (hmH.out.nil_then hm5);clear hm5;go_wp2_with fail;go_roundw
    case rel=>exact⟨_,hlt,by go_num,hm6.out⟩
    case measure=>simp[intOf];omega
   ·obtain⟨c,d,d0,d1,hpc,hcd⟩:=hpreH.out (by omega);have kd0:=GW.cell1 (S:=[]) d0 hblH.out (by simp);have kd1:=GW.cell1 (S:=[]) d1 hblH.out (by simp);have hk1:(k:Int)-1=((k-1:Nat):Int):=by omega
    have hkl:k-1<s.length:=by omega
    have hgt:decide (0<k)=true:=by rw[decide_eq_true_eq];omega
    have hcdB:decide (xo≤c+d)=false:=by rw[decide_eq_false_iff_not];omega
    clear d0 d1;refine wp_region_pure (by kernel_rfl) (by kernel_rfl) ?_;refine stage_quiet 1 (by kernel_rfl) ?_;simp only[tA,tB,tC,tD];(repeat go_big_quiet_step (fail));refine wpQuiet_nil ?_;refine stage_pure 186 _ (.bool true) rfl Tryz.call186 rfl rfl (fun w' _=>(proper_any xo xl w').mono fun e w'' ⟨he,hm⟩=>⟨by rw[he,hpB],hm⟩) ?_;simp only[Act.put,sA,sB,sC];refine stage_quiet 12 (by kernel_rfl) ?_;simp only[tA,tB,tC,tD];(repeat go_big_quiet_step (fail));refine wpQuiet_nil ?_;refine stage_pure 188 _ (.int .i64 (c+d)) rfl Tryz.call188 rfl rfl (fun w' _=>end_of (e:=(c,d)) hpc w') ?_;simp only[Act.put,sA,sB,sC];refine stage_quiet 3 (by kernel_rfl) ?_;simp only[tA,tB,tC,tD];(repeat go_big_quiet_step (fail));refine wpQuiet_nil ?_;refine stage_nil fun w5 hm5=> ?_
    have hm6:=Lib.hid (hmH.out.nil_then hm5);clear hm5;go_wp2_with fail;go_roundw
    case rel=>exact⟨_,hlt,by go_num,hm6.out⟩
    case measure=>simp[intOf];omega
  ·obtain rfl:k=s.length:=by omega
   have hmH:=Lib.hid hm;clear hm;go_wp2_with fail;go_ret;exact⟨rfl,hmH.out⟩
theorem search_ok (n:Nat) (hn:n≤1000000) (g:Nat) (lb:Array Value) (q:Nat→Bool) (w:World) (eg:∀args w,(callFunc g args).run Tryz.prog w=.ok (.enter g args) w)
  (hq:∀i,i<n→∀W,Mod [] w W→Calls Tryz.prog g (#[.int .i64 i]++lb) W fun e W'=>e=.returned (.bool (q i))∧Mod [] W W') (mono:∀i j,i≤j→j<n→q i=true→q j=true):
  Calls Tryz.prog 200 #[.int .i64 n,.func (.func g) #[] lb] w fun e w'=>∃m:Nat,e=.returned (.int .i64 m)∧m≤n∧(∀i,i<m→q i=false)∧(∀i,m≤i→i<n→q i=true)∧Mod [] w w':=by
 have hqH:=Lib.hid hq;have hmo:=Lib.hid mono;clear hq mono;go_enter Tryz.func200,Tryz.ntmps200;go_wp2_with fail;go_loopw [5,6] (fun iv jv wr=>∃i j:Nat,i≤j∧j≤n∧iv=.int .i64 i∧jv=.int .i64 j∧(∀k,k<i→q k=false)∧(∀k,j≤k→k<n→q k=true)∧Mod [] w wr) (fun iv jv _=>(intOf jv-intOf iv).toNat)
 case atStart=>exact⟨0,n,by omega,by omega,rfl,rfl,by simp,fun k h1 h2=>by omega,Mod.refl _ _⟩
 case round=>
  obtain⟨i,j,hij,hj,rfl,rfl,h1,h2,hm⟩:=hrel;have h1H:=Lib.hid h1;have h2H:=Lib.hid h2;have hmH:=Lib.hid hm;clear h1 h2 hm;by_cases hlt:i<j
  ·obtain⟨t,ht⟩:∃t,(i+j)/2=t:=⟨_,rfl⟩;have he:((i:Int)+j)/2=(t:Int):=by omega
   have htr:i≤t∧t<j:=by omega
   have hlt':decide ((i:Int)<j)=true:=by rw[decide_eq_true_eq];omega
   have heH:=Lib.hid he;clear he ht;go_wp2_with fail;rw[heH.out];refine(hqH.out t (by omega) wr hmH.out).mono ?_;rintro e w1 ⟨rfl,hm1⟩;have hm2:=Lib.hid (hmH.out.nil_then hm1);obtain⟨b,hb⟩:∃b,q t=b:=⟨_,rfl⟩;rw[hb];have hbH:=Lib.hid hb;clear hm1 hb;cases b
   ·go_wp2_with fail;go_roundw
    case rel=>exact⟨t+1,j,by omega,hj,by go_num,rfl,fun k hk=>Bool.eq_false_iff.2 fun hq=>absurd ((hmo.out k t (by omega) (by omega) hq).symm.trans hbH.out) (by simp),h2H.out,hm2.out⟩
    case measure=>simp[intOf];omega
   ·go_wp2_with fail;go_roundw
    case rel=>exact⟨i,t,by omega,by omega,rfl,by go_num,h1H.out,fun k h1 h2=>hmo.out t k h1 h2 hbH.out,hm2.out⟩
    case measure=>simp[intOf];omega
  ·obtain rfl:i=j:=by omega
   go_wp2_with fail;go_ret;exact⟨i,rfl,hj,h1H.out,h2H.out,hmH.out⟩
theorem afterC_ok {v:Value} {s:List Ext} {off:Int} {sb ob:Nat} {w:World} (hv:FieldsAt w v s) (hs:VS s) (h1:w.heap[sb]? =some (.cells #[v] 65 (0,0))) (h2:w.heap[ob]? =some (.cells #[.int .i64 off] 3 (0,0))) (i:Nat) (hi:i<s.length) (W:World) (hW:Mod [] w W):
  Calls Tryz.prog 201 (#[.int .i64 i]++#[.pointer (some ⟨sb,0,none⟩),.pointer (some ⟨ob,0,none⟩)]) W fun e W'=>e=.returned (.bool (decide (off<s[i].1+s[i].2)))∧Mod [] W W':=by
 obtain⟨xb,xo,cap,rfl,hb,c0,c1⟩:=fields_get (hv.mod hW) hi;have hp:=hs.1 s[i] (List.getElem_mem hi);have k1:=GW.cells (S:=[]) (hW.at h1 (by simp)) (by simp);have k2:=GW.cells (S:=[]) (hW.at h2 (by simp)) (by simp);have k3:=GW.cell1 (S:=[]) c0 hb (by simp);have k4:=GW.cell1 (S:=[]) c1 hb (by simp);generalize s[i]=x at*;obtain⟨eo,el⟩:=x;have hbd: -1000000000000≤eo+el∧eo+el≤1000000000000:=by unfold proper at hp;simp only at hp;omega
 clear hv hs h1 h2 hb c0 c1 hp;show Calls Tryz.prog 201 #[.int .i64 i,.pointer (some ⟨sb,0,none⟩),.pointer (some ⟨ob,0,none⟩)] W _;go_enter Tryz.func201,Tryz.ntmps201;go_wp2_with fail;refine wp_region_pure (by kernel_rfl) (by kernel_rfl) ?_;refine stage_quiet 4 (by kernel_rfl) ?_;simp only[tA,tB,tC,tD];(repeat go_big_quiet_step (fail));refine wpQuiet_nil ?_;refine stage_pure 188 _ (.int .i64 (eo+el)) rfl Tryz.call188 rfl rfl (fun w' _=>end_any eo el hbd.1 hbd.2 w') ?_;simp only[Act.put,sA,sB,sC];refine stage_quiet 3 (by kernel_rfl) ?_;simp only[tA,tB,tC,tD];(repeat go_big_quiet_step (fail));refine wpQuiet_nil ?_;refine stage_nil fun w5 hm5=> ?_
 go_wp2_with fail;go_ret;exact⟨rfl,hm5⟩
theorem after_ok {v:Value} {s:List Ext} {w:World} (h:FieldsAt w v s) (hs:VS s) (hl:s.length≤1000000) (off:Int):
  Calls Tryz.prog 187 #[v,.int .i64 off] w fun e w'=>∃m:Nat,e=.returned (.int .i64 m)∧m≤s.length∧(∀i (hi:i<s.length),i<m→s[i].1+s[i].2≤off)∧(∀i (hi:i<s.length),m≤i→off<s[i].1+s[i].2)∧Mod [] w w':=by
 obtain⟨va,vm,vc,hve⟩:=exts_slice h;subst hve;have hln:=fun ty w=>exts_len h ty w
 have hm0:Mod [] w ((w.alloc (.cells #[.slice va vm vc] 65)).alloc (.cells #[.int .i64 off] 3)):=((Mod.refl [] w).alloc _).alloc _;have z1:(w.alloc (.cells #[.slice va vm vc] 65)).heap.size=w.heap.size+1:=by simp
 have b0:=at_alloc_old (o:=.cells #[.int .i64 off] 3) (at_alloc w (.cells #[.slice va vm vc] 65));have b1:=at_alloc (w.alloc (.cells #[.slice va vm vc] 65)) (.cells #[.int .i64 off] 3);rw[z1]at b1;have hS:=search_ok s.length hl 201 #[.pointer (some ⟨w.heap.size,0,none⟩),.pointer (some ⟨w.heap.size+1,0,none⟩)] (fun i=>if h:i<s.length then decide (off<s[i].1+s[i].2)else true) _ Tryz.call201
  (fun i hi W hW=>by
   have:=afterC_ok (h.mod hm0) hs b0 b1 i hi W hW;rw[dif_pos hi];exact this)
  (fun i j hij hj hq=>by
   have hi:i<s.length:=by omega
   rw[dif_pos hi,decide_eq_true_eq]at hq;rw[dif_pos hj,decide_eq_true_eq];by_cases e:i=j
   ·subst e;exact hq
   ·have h1:=List.pairwise_iff_getElem.1 hs.2 i j hi hj (by omega);have h2:=hs.1 _ (List.getElem_mem hj);unfold proper at h2;omega)
 have hSH:=Lib.hid hS;have hmH:=Lib.hid hm0;have hcs:=cells_of b0;clear hS hm0 z1 b0 b1;go_enter Tryz.func187,Tryz.ntmps187;go_wp2_with fail;refine hSH.out.mono ?_;rintro e w1 ⟨m,rfl,hm,k1,k2,hm1⟩;have k1H:=Lib.hid k1;have k2H:=Lib.hid k2;have hm2:=Lib.hid (hmH.out.nil_then hm1);clear k1 k2 hm1 hSH hcs;go_wp2_with fail;go_ret;refine⟨m,rfl,hm,fun i hi hlt=> ?_,fun i hi hge=> ?_,hm2.out⟩
 ·have:=k1H.out i hlt;rw[dif_pos hi,decide_eq_false_iff_not]at this;omega
 ·have:=k2H.out i hge hi;rw[dif_pos hi,decide_eq_true_eq]at this;exact this
end Go.Proofs.YtapbeogoojejmaaGreat
