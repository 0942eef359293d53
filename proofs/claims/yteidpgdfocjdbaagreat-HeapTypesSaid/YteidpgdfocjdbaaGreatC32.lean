/- Joined contracts. No conditions. -/
import Derived.Test.YteidpgdfocjdbaaGreatCS
import Derived.Test.YteidpgdfocjdbaaGreatC20
import Derived.Test.YteidpgdfocjdbaaGreatC30
import Derived.Test.YteidpgdfocjdbaaGreatC31
set_option maxHeartbeats 4000000
set_option maxRecDepth 20000
namespace Go.Proofs.YteidpgdfocjdbaaGreat
open Go Go.RowKit Go.Stg
open Ty (FieldsAt)
theorem sizeof_ok {a:HA} {R:List Ty.Ty} {w:World} {f:List Nat} (hb:w.heap[a.hb]? =some (hpB a)) (hr:(Ty.regC 135 a.rt R).on w f) (x:Tb.Ent) (ht:Ty.TyOk (Ty.lookT R x.tag)):
  Calls Tryz.prog 125 #[.pointer (some ⟨a.hb,0,none⟩),Tb.entV x] w fun e w'=>e=.returned (.int .i64 (Ty.sizeT (Ty.lookT R x.tag).1 (Ty.lookT R x.tag).2))∧Mod [] w w':=by
 have hto:=Lib.hid fun w' (hm:Mod [] w w')=>typeof_ok (hm.at hb (by simp)) (Comp.keep (Ty.regC 135 a.rt R) hr hm (by simp)) x
 obtain⟨h,owner,tag,off,len⟩:=x;simp only[Tb.entV]at hto⊢;have hm0:=Lib.hid ((Mod.refl [] w).alloc (.cells #[.int .u64 h,.int .i64 owner,.int .i64 tag,.int .i64 off,.int .i64 len] 119));simp only at hto ht⊢;generalize Ty.lookT R tag=T at*;obtain⟨tl,tf⟩:=T;have hbd:=ht.bounds;have he:Ty.errT tl tf=0:=ht;simp only at hto hbd⊢;have hsz:=Lib.hid fun v w' (hv:FieldsAt w' v tf)=>(show Calls Tryz.prog _ _ _ (fun e w''=>e=.returned (.tuple #[.int .i64 (Ty.sizeT tl tf),.int .i64 0])∧Mod [] w' w'') by
  have:=Ty.sizeF_ok tl v tf w' hv (by omega) (by omega);unfold Ty.sizeV at this;rw[if_pos he,he]at this;exact this)
 clear hb hr ht he;go_enter Tryz.func125,Tryz.ntmps125;go_wp2_with fail;refine(hto.out _ hm0.out).mono ?_;rintro e w1 ⟨v,rfl,hf,hm1⟩;have hm1H:=Lib.hid (hm0.out.nil_then hm1);have hfH:=Lib.hid hf;clear hm1 hf hto hm0;go_wp2_with fail;refine(hsz.out v _ hfH.out).mono ?_;rintro e w2 ⟨rfl,hm2⟩;have hm2H:=Lib.hid (hm1H.out.nil_then hm2);clear hm2 hsz;go_wp2_with fail;go_ret;exact⟨rfl,hm2H.out⟩
def resX (s:HS) (p o acc:Int):Tb.Ent:=if accD s p o acc=0 then entH s o else Tb.ent0
theorem resX_zero {s:HS} {p o acc:Int} (h:accD s p o acc=0):resX s p o acc=entH s o:=by unfold resX;rw[if_pos h]
theorem resX_bad {s:HS} {p o acc:Int} (h:accD s p o acc≠0):Tb.entV (resX s p o acc)=.agg #[.int .u64 0,.int .i64 0,.int .i64 0,.int .i64 0,.int .i64 0]:=by unfold resX;rw[if_neg h];rfl
theorem accD_res {s:HS} {p o acc:Int} (h:Tb.resE s.T o≠0):accD s p o acc=Tb.resE s.T o:=by unfold accD;rw[if_neg h]
theorem accD_acc {s:HS} {p o acc:Int} (h:Tb.resE s.T o=0):accD s p o acc=Bw.accE s.L (Tb.hSlot o) p (decide ((entH s o).owner=p)) acc:=by unfold accD;rw[if_pos h]
theorem hresolve_ok {F:List Nat} {W w:World} {cs:List Comp} {a:HA} {c:HC} {k:Nat} {s:HS} (hc:c.Ok) (hI:HInv c k s) (hk:k≤1000) {u:List Ext} {B:List Int} {fm:Int→Qt.Q} (hS:Scene F W (hpP a c s.R s.T s.L s.evs s.miss s.st u B fm++cs) w)
  (p o acc:Int) (o0:0≤o) (o1:o≤18446744073709551615):
  Calls Tryz.prog 93 #[.pointer (some ⟨a.hb,0,none⟩),.int .i64 p,.int .u64 o,.int .i64 acc] w fun e w'=>e=.returned (.tuple #[Tb.entV (resX s p o acc),.int .i64 (accD s p o acc)])∧Mod [] w w':=by
 have hm0:=Lib.hid ((Mod.refl [] w).alloc (.cells #[.int .u64 0,.int .i64 0,.int .i64 0,.int .i64 0,.int .i64 0] 119));have hr0:=Lib.hid (at_alloc w (.cells #[.int .u64 0,.int .i64 0,.int .i64 0,.int .i64 0,.int .i64 0] 119));have hb:=hS.block 0 rfl;have hrs:=Lib.hid fun w' (hm:Mod [] w w')=>(show Calls Tryz.prog _ #[.pointer (some ⟨a.tb,0,none⟩),.int .u64 o] w' (fun e w''=>e=.returned (Tb.resV s.T o)∧Mod [] w' w'')from by
  obtain⟨_,⟨_,hA,hH⟩,_⟩:=(hS.then hm).part 3 rfl;exact Tb.resolve_ok hI.tin hA o o0 o1 hc.n (Scene.start hH))
 have hac:=Lib.hid fun w' (hm:Mod [] w w')=>Bw.access_ok (Bw.LedV.of ((hS.then hm).part 4 rfl).choose_spec.1) hI.lin (by have:=hI.llen;omega) (Tb.hSlot o) p (decide ((entH s o).owner=p)) acc
 have hsl:=Lib.hid fun w'=>Tb.slot_ok o o0 o1 w'
 have hch:=cells_of (hm0.out.at hb (by simp));have hbH:=Lib.hid hb;by_cases hE:Tb.resE s.T o=0
 ·have hz:=accD_acc (p:=p) (acc:=acc) hE;have hrv:Tb.resV s.T o=.tuple #[Tb.entV (entH s o),.int .i64 0]:=by unfold Tb.resV;rw[hE];rfl
  rw[hrv]at hrs;have hx1:=Lib.hid fun(h:accD s p o acc=0)=>resX_zero h
  have hx2:=Lib.hid fun(h:accD s p o acc≠0)=>resX_bad h
  rw[hz]at hx1 hx2⊢;generalize Bw.accE s.L (Tb.hSlot o) p (decide ((entH s o).owner=p)) acc=E at*;generalize resX s p o acc=Y at*;generalize Tb.hSlot o=sl at*;generalize entH s o=X at*;obtain⟨xh,xo,xt,xf,xl⟩:=X;simp only[Tb.entV]at hrs hac hx2;obtain⟨b,hbb⟩:∃b,decide (xo=p)=b:=⟨_,rfl⟩;rw[hbb]at hac;have hbe:(xo==p)=b:=by rw[←hbb];simp[BEq.beq]
  obtain⟨YV,hYV⟩:∃YV,Tb.entV Y=YV:=⟨_,rfl⟩;rw[hYV];have hYH:=Lib.hid hYV;clear hz hrv hE hS hb hbb hYV;go_enter Tryz.func93,Tryz.ntmps93;go_wp2_with fail;refine(hrs.out _ hm0.out).mono ?_;rintro e w1 ⟨rfl,hm1⟩;have hm1H:=Lib.hid ((hm0.out.nil_then hm1).alloc (.cells #[.int .u64 xh,.int .i64 xo,.int .i64 xt,.int .i64 xf,.int .i64 xl] 119));have hr1:=Lib.hid (at_alloc_old (o:=.cells #[.int .u64 xh,.int .i64 xo,.int .i64 xt,.int .i64 xf,.int .i64 xl] 119) (hm1.at hr0.out (by simp)));have hx0:=Lib.hid (at_alloc w1 (.cells #[.int .u64 xh,.int .i64 xo,.int .i64 xt,.int .i64 xf,.int .i64 xl] 119));have hlt:=hm1.gt;clear hm1 hrs hm0 hr0 hch;go_wp2_with fail;generalize hW1:w1.alloc (.cells #[.int .u64 xh,.int .i64 xo,.int .i64 xt,.int .i64 xf,.int .i64 xl] 119)=W1 at*;have hb1:=Lib.hid (hm1H.out.at hbH.out (by simp));have k1:=GW.cells (S:=[]) hb1.out (by simp);have k2:=GW.cells (S:=[]) hx0.out (by simp);refine wp_region_pure (by kernel_rfl) (by kernel_rfl) ?_;refine stage_quiet 5 (by kernel_rfl) ?_;simp only[tA,tB,tC,tD];(repeat go_big_quiet_step (fail));refine wpQuiet_nil ?_;refine stage_pure 54 #[.int .u64 o] (.int .i64 sl) rfl Tryz.call54 rfl rfl (fun w' _=>hsl.out w') ?_;simp only[Act.put,sA,sB,sC];refine stage_quiet 6 (by kernel_rfl) ?_;simp only[tA,tB,tC,tD];(repeat go_big_quiet_step (fail));refine wpQuiet_nil ?_;refine stage_pure 127 #[.pointer (some ⟨a.lb,0,none⟩),.int .i64 sl,.int .i64 p,.bool b,.int .i64 acc] (.int .i64 E) rfl Tryz.call127 rfl rfl (fun w' hm=>hac.out w' (hm1H.out.nil_then hm)) ?_;simp only[Act.put,sA,sB,sC];refine stage_quiet 1 (by kernel_rfl) ?_;simp only[tA,tB,tC,tD];(repeat go_big_quiet_step (fail));refine wpQuiet_nil ?_;refine stage_nil fun w2 hm2=> ?_
  have hm2H:=Lib.hid (hm1H.out.nil_then hm2);have hr2:=Lib.hid (hm2.at hr1.out (by simp));have hx2':=Lib.hid (hm2.at hx0.out (by simp));have c1:=cells_of hx2'.out;have c2:=cells_of hr2.out;have f2:=frozen_of hr2.out;clear k1 k2 hm2 hsl hac hm1H hr1 hx0 hb1 hW1;by_cases hE0:E=0
  ·subst hE0;have hy:=hx1.out rfl;have hyv:YV=.agg #[.int .u64 xh,.int .i64 xo,.int .i64 xt,.int .i64 xf,.int .i64 xl]:=by rw[←hYH.out,hy];rfl
   subst hyv;clear hy hx1 hx2;go_wp2_with fail;have hq5:=(at_setCell (o:=4) (v:=.int .i64 xl) (at_setCell (o:=3) (v:=.int .i64 xf) (at_setCell (o:=2) (v:=.int .i64 xt) (at_setCell (o:=1) (v:=.int .i64 xo) (at_setCell (o:=0) (v:=.int .u64 xh) hr2.out)))));have hm5:=(((((hm2H.out.setCell (p:=⟨w.heap.size,0,none⟩) (.inr (Nat.le_refl _)) (.int .u64 xh)).setCell (p:=⟨w.heap.size,1,none⟩) (.inr (Nat.le_refl _)) (.int .i64 xo)).setCell (p:=⟨w.heap.size,2,none⟩) (.inr (Nat.le_refl _)) (.int .i64 xt)).setCell (p:=⟨w.heap.size,3,none⟩) (.inr (Nat.le_refl _)) (.int .i64 xf)).setCell (p:=⟨w.heap.size,4,none⟩) (.inr (Nat.le_refl _)) (.int .i64 xl));refine bodyPost_ret (ret_cell_tmp Tryz.results93 rfl rfl hq5 Tryz.underlying119 rfl (by kernel_rfl)) rfl ?_;exact⟨rfl,hm5⟩
  ·have hyv:=hYH.out.symm.trans (hx2.out hE0);have hne:(E != 0)=true:=by simpa using hE0
   subst hyv;clear hx1 hx2 hE0;go_wp2_with fail;have hq5:=(at_setCell (o:=4) (v:=.int .i64 0) (at_setCell (o:=3) (v:=.int .i64 0) (at_setCell (o:=2) (v:=.int .i64 0) (at_setCell (o:=1) (v:=.int .i64 0) (at_setCell (o:=0) (v:=.int .u64 0) hr2.out)))));have hm5:=(((((hm2H.out.setCell (p:=⟨w.heap.size,0,none⟩) (.inr (Nat.le_refl _)) (.int .u64 0)).setCell (p:=⟨w.heap.size,1,none⟩) (.inr (Nat.le_refl _)) (.int .i64 0)).setCell (p:=⟨w.heap.size,2,none⟩) (.inr (Nat.le_refl _)) (.int .i64 0)).setCell (p:=⟨w.heap.size,3,none⟩) (.inr (Nat.le_refl _)) (.int .i64 0)).setCell (p:=⟨w.heap.size,4,none⟩) (.inr (Nat.le_refl _)) (.int .i64 0));refine bodyPost_ret (ret_cell_tmp Tryz.results93 rfl rfl hq5 Tryz.underlying119 rfl (by kernel_rfl)) rfl ?_;exact⟨rfl,hm5⟩
 ·have hz:=accD_res (p:=p) (acc:=acc) hE;have hrv:=Tb.resV_bad (x:=s.T) (h:=o) rfl hE;rw[hrv]at hrs;have hx2:=resX_bad (s:=s) (p:=p) (o:=o) (acc:=acc) (by rw[hz];exact hE);rw[hx2,hz];generalize Tb.resE s.T o=E at*;have he0:(E==0)=false:=by simpa using hE
  have hne:(E != 0)=true:=by simpa using hE
  clear hz hrv hE hS hx2 hac hsl;go_enter Tryz.func93,Tryz.ntmps93;go_wp2_with fail;refine(hrs.out _ hm0.out).mono ?_;rintro e w1 ⟨rfl,hm1⟩;have hm2H:=Lib.hid (hm0.out.nil_then hm1);have hr2:=Lib.hid (hm1.at hr0.out (by simp));have hlt:=hm1.gt;have c2:=cells_of (hm1.at hr0.out (by simp));have f2:=frozen_of (hm1.at hr0.out (by simp));clear hm1 hrs hm0 hr0 hch;go_wp2_with fail;have hq5:=(at_setCell (o:=4) (v:=.int .i64 0) (at_setCell (o:=3) (v:=.int .i64 0) (at_setCell (o:=2) (v:=.int .i64 0) (at_setCell (o:=1) (v:=.int .i64 0) (at_setCell (o:=0) (v:=.int .u64 0) hr2.out)))));have hm5:=(((((hm2H.out.setCell (p:=⟨w.heap.size,0,none⟩) (.inr (Nat.le_refl _)) (.int .u64 0)).setCell (p:=⟨w.heap.size,1,none⟩) (.inr (Nat.le_refl _)) (.int .i64 0)).setCell (p:=⟨w.heap.size,2,none⟩) (.inr (Nat.le_refl _)) (.int .i64 0)).setCell (p:=⟨w.heap.size,3,none⟩) (.inr (Nat.le_refl _)) (.int .i64 0)).setCell (p:=⟨w.heap.size,4,none⟩) (.inr (Nat.le_refl _)) (.int .i64 0));have hq6:=at_alloc_old (o:=.cells #[.int .u64 0,.int .i64 0,.int .i64 0,.int .i64 0,.int .i64 0] 119) hq5;refine bodyPost_ret (ret_cell_tmp Tryz.results93 rfl rfl hq6 Tryz.underlying119 rfl (by kernel_rfl)) rfl ?_;exact⟨rfl,hm5.alloc _⟩
end Go.Proofs.YteidpgdfocjdbaaGreat
namespace Go.Proofs.YteidpgdfocjdbaaGreat
open Go Go.RowKit Go.Stg
section
variable {b:Nat} {l:Qt.Q} {f:Int→Qt.Q} {w:World} {fp:List Nat} (h:(meterC b l f).on w fp)
include h
theorem changed_takes {fn:FuncId} {args:Array Value} {v:Value} {f':Int→Qt.Q} (hc:∀mo,Qt.MeterAt w b mo l f→Calls Tryz.prog fn args w (Qt.Changed v b mo l f' w)):Calls Tryz.prog fn args w (Takes (meterC b l f') v w fp):=by
 obtain⟨mo,hM,rfl⟩:=h;refine(hc mo hM).mono ?_;rintro e w' ⟨mo',he,hm,hM',hn⟩;exact⟨b::mo'.toList,he,⟨mo',hM',rfl⟩,hm,fun x hx=>by
  rcases List.mem_cons.1 hx with rfl|hx
  ·exact .inl (by simp)
  ·rw[Option.mem_toList]at hx;exact(hn x hx).imp (fun h=>by simp[h]) id⟩
theorem mfits_ok (p:Int) (q:Qt.Q):Calls Tryz.prog 40 #[.pointer (some ⟨b,0,none⟩),.int .i64 p,.agg #[.int .i64 q.b,.int .i64 q.o,.int .i64 q.r]] w fun e w'=>e=.returned (.int .i64 (Qt.fitsE l (f p) q))∧Mod [] w w':=by
 obtain⟨mo,hM,rfl⟩:=h;exact Qt.Fits_any p q l b mo f w hM
theorem madd_ok (p:Int) (q:Qt.Q) (hf:Qt.fitsE l (f p) q=0):Calls Tryz.prog 43 #[.pointer (some ⟨b,0,none⟩),.int .i64 p,.agg #[.int .i64 q.b,.int .i64 q.o,.int .i64 q.r]] w (Takes (meterC b l (Qt.upd f p ((f p).add q))) (.int .i64 0) w fp):=
 changed_takes h fun mo hM=>Qt.Add_yes p q l b mo f w hM hf
theorem madd_no (p:Int) (q:Qt.Q) (hf:Qt.fitsE l (f p) q≠0):Calls Tryz.prog 43 #[.pointer (some ⟨b,0,none⟩),.int .i64 p,.agg #[.int .i64 q.b,.int .i64 q.o,.int .i64 q.r]] w fun e w'=>e=.returned (.int .i64 (Qt.fitsE l (f p) q))∧Mod [] w w':=by
 obtain⟨mo,hM,rfl⟩:=h;exact Qt.Add_no p q l b mo f w hM hf
theorem msub_ok (p:Int) (q:Qt.Q) (hf:Qt.subE (f p) q=0):Calls Tryz.prog 57 #[.pointer (some ⟨b,0,none⟩),.int .i64 p,.agg #[.int .i64 q.b,.int .i64 q.o,.int .i64 q.r]] w (Takes (meterC b l (Qt.upd f p ((f p).sub q))) (.int .i64 0) w fp):=
 changed_takes h fun mo hM=>Qt.Sub_yes p q l b mo f w hM hf
end
theorem hp_close {F:List Nat} {W w:World} {cs:List Comp} {a:HA} {c:HC} {s':HS} {u:List Ext} {B:List Int} {fm:Int→Qt.Q} (hu:u=usedH c s') (hfm:∀p,fm p=hasH c s' p) (hB:ArIs c.size (obs c s') B)
  (h:Scene F W (hpP a c s'.R s'.T s'.L s'.evs s'.miss s'.st u B fm++cs) w):Scene F W (hpA a c s'::cs) w:=by
 subst hu;obtain rfl:fm=hasH c s':=funext hfm;exact hp_shut hB h
theorem sub_zero {x q:Qt.Q} (h1:0≤q.b∧q.b≤x.b) (h2:0≤q.o∧q.o≤x.o) (h3:0≤q.r∧q.r≤x.r):Qt.subE x q=0:=by
 unfold Qt.subE;rw[if_neg];simp only[Qt.negB,Qt.overB,Bool.or_eq_true,decide_eq_true_eq];omega
theorem came_upd {c:HC} {k:Nat} {s s':HS} {x:Ob} {p:Int} (hg:Came c k s s' x p) (q:Int):Qt.upd (hasH c s) p ((hasH c s p).add (wq x.1.2)) q=hasH c s' q:=by
 unfold Qt.upd;rw[hg.has q];by_cases e:q=p
 ·rw[if_pos e,if_pos e,e]
 ·rw[if_neg e,if_neg e]
end Go.Proofs.YteidpgdfocjdbaaGreat
namespace Go.Proofs.YteidpgdfocjdbaaGreat
open Go Go.RowKit Go.Stg
theorem HInv.alive {c:HC} {k:Nat} {s:HS} (hI:HInv c k s) {p:Int} (h:s.st p=1):1≤p∧p≤64:=by
 rcases hI.st p with h'|⟨h',_⟩
 ·rw[h']at h;cases h
 ·exact h'
theorem logA_yes {c:HC} {s:HS} {e:Ev} (h:room c s e.p=true):logA c s e={s with evs:=s.evs++[e]}:=by
 unfold logA;rw[h];simp
theorem logA_no {c:HC} {s:HS} {e:Ev} (h:room c s e.p=false) (hc:e.counts=true):logA c s e={s with miss:=s.miss++[e.p]}:=by
 unfold logA;rw[h,hc];simp
theorem hpA_log {a:HA} {c:HC} {s s':HS} {B:List Int} {w:World} {f:List Nat} (hR:s'.R=s.R) (hT:s'.T=s.T) (hL:s'.L=s.L) (hm:s'.mem=s.mem) (hst:s'.st=s.st) (hB:ArIs c.size (obs c s) B)
  (h:Hold (hpP a c s.R s.T s.L s'.evs s'.miss s.st (usedH c s) B (hasH c s)) w f):(hpA a c s').on w f:=by
 have e1:obs c s'=obs c s:=by unfold obs obAt memH;rw[hT,hm]
 have e2:usedH c s'=usedH c s:=by unfold usedH liveE;rw[hT]
 have e3:hasH c s'=hasH c s:=by funext p;unfold hasH liveE;rw[hT,hL]
 refine⟨B,by rw[e1];exact hB,?_⟩;rw[e2,e3,hR,hT,hL,hst];exact h
section
variable {F:List Nat} {W w:World} {cs:List Comp} {a:HA} {c:HC} {s:HS} {evb:Nat} {ep eop eh earg:Int}
theorem act_dead (hS:Scene F W (hpA a c s::blockC evb (.cells #[.int .i64 ep,.int .i64 eop,.int .u64 eh,.int .u64 earg,.int .i64 0] 99 (0,0))::cs) w) (fv:Value) (hst:s.st ep≠1):
  Calls Tryz.prog 35 #[.pointer (some ⟨a.hb,0,none⟩),.pointer (some ⟨evb,0,none⟩),fv] w fun e w'=>e=.returned (.int .i64 15)∧Mod [] w w':=by
 obtain⟨B,hB,hS0⟩:=hp_open hS;have hal:=Lib.hid fun w' (hm:Mod [] w w')=>alive_ok (hm.at (hS0.block 0 rfl) (by simp)) (scene_st 7 (hS0.then hm) rfl) ep
 have hce:=cells_of (hS0.block 8 rfl);have hd:decide (s.st ep=1)=false:=by simpa using hst
 rw[hd]at hal;clear hS hS0 hd hst hB;go_enter Tryz.func35,Tryz.ntmps35;go_wp2_with fail;refine(hal.out _ (Mod.refl _ _)).mono ?_;rintro e w1 ⟨rfl,hm⟩;have hmH:=Lib.hid hm;clear hm hal;go_wp2_with fail;go_ret;exact⟨rfl,hmH.out⟩
theorem act_full (hS:Scene F W (hpA a c s::blockC evb (.cells #[.int .i64 ep,.int .i64 eop,.int .u64 eh,.int .u64 earg,.int .i64 0] 99 (0,0))::cs) w) (fv:Value) (hst:s.st ep=1) (hr:room c s ep=false) (ho:eop≠3∧eop≠5) (hml:s.miss.length≤1000000):
  Calls Tryz.prog 35 #[.pointer (some ⟨a.hb,0,none⟩),.pointer (some ⟨evb,0,none⟩),fv] w fun e w'=>e=.returned (.int .i64 19)∧Scene F W (hpA a c {s with miss:=s.miss++[ep]}::blockC evb (.cells #[.int .i64 ep,.int .i64 eop,.int .u64 eh,.int .u64 earg,.int .i64 0] 99 (0,0))::cs) w':=by
 obtain⟨B,hB,hS0⟩:=hp_open hS;have hal:=Lib.hid fun w' (hm:Mod [] w w')=>alive_ok (hm.at (hS0.block 0 rfl) (by simp)) (scene_st 7 (hS0.then hm) rfl) ep
 have hrm:=Lib.hid fun w' (hm:Mod [] w w')=>room_ok (((hS0.then hm).part 6 rfl).choose_spec.1) ep
 have hmi:=Lib.hid fun w' f' (h':(logC a.gb c.cap s.evs s.miss).on w' f')=>logmiss_ok h' hml ep
 have hce:=cells_of (hS0.block 8 rfl);have hd:decide (s.st ep=1)=true:=by simpa using hst
 rw[hd]at hal;have hr':decide ((recs s.evs ep:Int)<c.cap)=false:=hr;rw[hr']at hrm;have hS0H:=Lib.hid hS0;have hBH:=Lib.hid hB;have e3:(eop != 3)=true:=by simpa using ho.1
 have e5:(eop != 5)=true:=by simpa using ho.2
 clear hS hS0 hd hst hB hr hr' ho;go_enter Tryz.func35,Tryz.ntmps35;go_wp2_with fail;refine(hal.out _ (Mod.refl _ _)).mono ?_;rintro e w1 ⟨rfl,hm⟩;have hmH:=Lib.hid hm;have hce:=cells_of ((hS0H.out.then hm).block 8 rfl);have hch:=cells_of ((hS0H.out.then hm).block 0 rfl);clear hm hal;go_wp2_with fail;refine(hrm.out _ hmH.out).mono ?_;rintro e w2 ⟨rfl,hm⟩;have hS2:=Lib.hid (hS0H.out.then (hmH.out.nil_then hm));have hch:=cells_of (hS2.out.block 0 rfl);clear hm hrm hmH hS0H;go_wp2_with fail;obtain⟨fl,hl,hput⟩:=hS2.out.part 6 rfl;refine(hmi.out _ _ hl).mono ?_;rintro e w3 ⟨f',rfl,q1,q2,q3⟩;have hS3:=Lib.hid (hput w3 f' _ q1 q2 q3);clear hl hput q1 q2 q3 hS2 hmi;go_wp2_with fail;go_ret;exact⟨rfl,Scene.shut1 (c:=hpA a c {s with miss:=s.miss++[ep]}) (hpP a c s.R s.T s.L s.evs (s.miss++[ep]) s.st (usedH c s) B (hasH c s)) hS3.out fun g hg=>hpA_log rfl rfl rfl rfl rfl hBH.out hg⟩
theorem act_do (hS:Scene F W (hpA a c s::blockC evb (.cells #[.int .i64 ep,.int .i64 eop,.int .u64 eh,.int .u64 earg,.int .i64 0] 99 (0,0))::cs) w) (hst:s.st ep=1) (hr:eop≠3∧eop≠5→room c s ep=true)
  {g:FuncId} {lb:Array Value} (eg:∀args w,(callFunc g args).run Tryz.prog w=.ok (.enter g args) w) {s':HS} {cs':List Comp} {h1 r:Int} (hok:Ev.ok ⟨ep,eop,h1,earg,r⟩) (hcn:Ev.counts ⟨ep,eop,h1,earg,r⟩=true) (hel:s'.evs.length≤100000) (hml:s'.miss.length≤1000000)
  (hdo:∀w',Scene F W (hpA a c s::blockC evb (.cells #[.int .i64 ep,.int .i64 eop,.int .u64 eh,.int .u64 earg,.int .i64 0] 99 (0,0))::cs) w'→Calls Tryz.prog g lb w' fun e w''=>e=.returned (.int .i64 r)∧Scene F W (hpA a c s'::blockC evb (.cells #[.int .i64 ep,.int .i64 eop,.int .u64 h1,.int .u64 earg,.int .i64 0] 99 (0,0))::cs') w''):
  Calls Tryz.prog 35 #[.pointer (some ⟨a.hb,0,none⟩),.pointer (some ⟨evb,0,none⟩),.func (.func g) #[] lb] w fun e w'=>e=.returned (.int .i64 r)∧Scene F W (hpA a c (if(eop=3∨eop=5)∧r=0 then s' else logA c s' ⟨ep,eop,h1,earg,r⟩)::blockC evb (.cells #[.int .i64 ep,.int .i64 eop,.int .u64 h1,.int .u64 earg,.int .i64 r] 99 (0,0))::cs') w':=by
 obtain⟨sf,hsf⟩:∃sf,(if(eop=3∨eop=5)∧r=0 then s' else logA c s' ⟨ep,eop,h1,earg,r⟩)=sf:=⟨_,rfl⟩;rw[hsf];have hsfH:=Lib.hid hsf;obtain⟨B,hB,hS0⟩:=hp_open hS;have hal:=Lib.hid fun w' (hm:Mod [] w w')=>alive_ok (hm.at (hS0.block 0 rfl) (by simp)) (scene_st 7 (hS0.then hm) rfl) ep
 have hrm:=Lib.hid fun w' (hm:Mod [] w w')=>room_ok (((hS0.then hm).part 6 rfl).choose_spec.1) ep
 have hce:=cells_of (hS0.block 8 rfl);clear hsf;have hd:decide (s.st ep=1)=true:=by simpa using hst
 rw[hd]at hal;have hS0H:=Lib.hid hS0;have hSH:=Lib.hid hS;have hdoH:=Lib.hid hdo;have hrH:=Lib.hid hr;clear hS hS0 hd hst hB hr hdo;go_enter Tryz.func35,Tryz.ntmps35;go_wp2_with fail;refine(hal.out _ (Mod.refl _ _)).mono ?_;rintro e w1 ⟨rfl,hm⟩;have hmH:=Lib.hid hm;have hce:=cells_of ((hS0H.out.then hm).block 8 rfl);have hch:=cells_of ((hS0H.out.then hm).block 0 rfl);clear hm hal;by_cases hq:eop≠3∧eop≠5
 ·have e3:(eop != 3)=true:=by simpa using hq.1
  have e5:(eop != 5)=true:=by simpa using hq.2
  have hr':decide ((recs s.evs ep:Int)<c.cap)=true:=hrH.out hq;have hif:¬((eop=3∨eop=5)∧r=0):=fun h=>h.1.elim hq.1 hq.2
  have hifH:=Lib.hid hif;rw[hr']at hrm;clear hrH hr' hif hq;go_wp2_with fail;refine(hrm.out _ hmH.out).mono ?_;rintro e w2 ⟨rfl,hm⟩;have hS2:=Lib.hid (hSH.out.then (hmH.out.nil_then hm));clear hm hrm hmH hS0H hSH;go_wp2_with fail;refine(hdoH.out _ hS2.out).mono ?_;rintro e w3 ⟨rfl,hS3⟩;have hS3H:=Lib.hid hS3;have hce:=cells_of (hS3.block 1 rfl);have hfe:=frozen_of (hS3.block 1 rfl);clear hS3 hS2 hdoH;have hS4:=Lib.hid (hS3H.out.blockSet 1 rfl 4 (.int .i64 r));go_wp2_with fail;clear hce hfe hS3H;generalize w3.setCell ⟨evb,4,none⟩ (.int .i64 r)=W4 at*;obtain⟨B',hB',hS5⟩:=hp_open hS4.out;obtain⟨fl,hl,hput,hne⟩:=hS5.takePart 6 rfl;have k1:=GW.cells (S:=fl) (hS5.block 0 rfl) (hne 0 _ _ rfl);have k2:=GW.cells (S:=fl) (hS5.block 8 rfl) (hne 7 _ _ rfl);have hlH:=Lib.hid hl;have hputH:=Lib.hid hput;have hBH:=Lib.hid hB';clear hS5 hl hput hne hB';by_cases hroom:(recs s'.evs ep:Int)<c.cap
  ·have hap:=Lib.hid fun w' (hm:Mod [] W4 w')=>(show Calls Tryz.prog 34 #[.pointer (some ⟨a.gb,0,none⟩),.agg #[.int .i64 ep,.int .i64 eop,.int .u64 h1,.int .u64 earg,.int .i64 r]] w' (Takes (logC a.gb c.cap (s'.evs++[⟨ep,eop,h1,earg,r⟩]) s'.miss) (.int .i64 0) w' fl) by
    have:=logappend_ok (hlH.out w' hm) hok hel;have e1:appE c.cap s'.evs ⟨ep,eop,h1,earg,r⟩=0:=by unfold appE;rw[if_neg];intro h;exact h.2 hroom
    have e2:appL c.cap s'.evs ⟨ep,eop,h1,earg,r⟩=s'.evs++[⟨ep,eop,h1,earg,r⟩]:=by unfold appL;rw[if_neg];intro h;exact h.2 hroom
    rw[e1,e2]at this;exact this)
   refine wp_region_part fl (by kernel_rfl) (by kernel_rfl) ?_;refine stage_quiet 7 (by kernel_rfl) ?_;simp only[tA,tB,tC,tD];(repeat go_big_quiet_step (fail));refine wpQuiet_nil ?_;refine stage_takes 34 #[.pointer (some ⟨a.gb,0,none⟩),.agg #[.int .i64 ep,.int .i64 eop,.int .u64 h1,.int .u64 earg,.int .i64 r]] (.int .i64 0) rfl Tryz.call34 rfl rfl hap.out ?_;simp only[Act.put,sA,sB,sC];refine stage_quiet 1 (by kernel_rfl) ?_;simp only[tA,tB,tC,tD];(repeat go_big_quiet_step (fail));refine wpQuiet_nil ?_;refine stage_nil fun w5 hw5=> ?_
   have hS6:=Lib.hid (hputH.out w5 _ hw5);have hce:=cells_of (hS6.out.block 8 rfl);clear k1 k2 hap hputH hlH hw5;go_wp2_with fail;go_ret;refine⟨rfl,?_⟩;rw[←hsfH.out,if_neg hifH.out,logA_yes (by unfold room;simpa using hroom)];exact Scene.shut1 (c:=hpA a c {s' with evs:=s'.evs++[⟨ep,eop,h1,earg,r⟩]}) (hpP a c s'.R s'.T s'.L (s'.evs++[(⟨ep,eop,h1,earg,r⟩:Ev)]) s'.miss s'.st (usedH c s') B' (hasH c s')) hS6.out fun g hg=>hpA_log rfl rfl rfl rfl rfl hBH.out hg
  ·have hap:=Lib.hid fun w' (hm:Mod [] W4 w')=>(show Calls Tryz.prog 34 #[.pointer (some ⟨a.gb,0,none⟩),.agg #[.int .i64 ep,.int .i64 eop,.int .u64 h1,.int .u64 earg,.int .i64 r]] w' (Takes (logC a.gb c.cap s'.evs s'.miss) (.int .i64 19) w' fl) by
    have:=logappend_ok (hlH.out w' hm) hok hel;have e1:appE c.cap s'.evs ⟨ep,eop,h1,earg,r⟩=19:=by unfold appE;rw[if_pos ⟨hcn,hroom⟩]
    have e2:appL c.cap s'.evs ⟨ep,eop,h1,earg,r⟩=s'.evs:=by unfold appL;rw[if_pos ⟨hcn,hroom⟩]
    rw[e1,e2]at this;exact this)
   have hmi:=Lib.hid fun w' f' (h':(logC a.gb c.cap s'.evs s'.miss).on w' f')=>logmiss_ok h' hml ep
   refine wp_region_part fl (by kernel_rfl) (by kernel_rfl) ?_;refine stage_quiet 7 (by kernel_rfl) ?_;simp only[tA,tB,tC,tD];(repeat go_big_quiet_step (fail));refine wpQuiet_nil ?_;refine stage_takes 34 #[.pointer (some ⟨a.gb,0,none⟩),.agg #[.int .i64 ep,.int .i64 eop,.int .u64 h1,.int .u64 earg,.int .i64 r]] (.int .i64 19) rfl Tryz.call34 rfl rfl hap.out ?_;simp only[Act.put,sA,sB,sC];refine stage_quiet 1 (by kernel_rfl) ?_;simp only[tA,tB,tC,tD];(repeat go_big_quiet_step (fail));refine wpQuiet_nil ?_;refine stage_nil fun w5 hw5=> ?_
   have hS6:=Lib.hid (hputH.out w5 _ hw5);have hch:=cells_of (hS6.out.block 0 rfl);clear k1 k2 hap hputH hlH hw5;go_wp2_with fail;obtain⟨fm,hl,hput⟩:=hS6.out.part 6 rfl;refine(hmi.out _ _ hl).mono ?_;rintro e w6 ⟨f',rfl,q1,q2,q3⟩;have hS7:=Lib.hid (hput w6 f' _ q1 q2 q3);have hce:=cells_of (hS7.out.block 8 rfl);clear hl hput q1 q2 q3 hS6 hmi hch;go_wp2_with fail;go_ret;refine⟨rfl,?_⟩;rw[←hsfH.out,if_neg hifH.out,logA_no (by unfold room;simpa using hroom) hcn];exact Scene.shut1 (c:=hpA a c {s' with miss:=s'.miss++[ep]}) (hpP a c s'.R s'.T s'.L s'.evs (s'.miss++[ep]) s'.st (usedH c s') B' (hasH c s')) hS7.out fun g hg=>hpA_log rfl rfl rfl rfl rfl hBH.out hg
 ·have hq':eop=3∨eop=5:=by omega
  clear hq hrH hrm;rcases hq' with rfl|rfl
  ·have hS2:=Lib.hid (hSH.out.then hmH.out);clear hmH hS0H hSH;go_wp2_with fail;refine(hdoH.out _ hS2.out).mono ?_;rintro e w3 ⟨rfl,hS3⟩;have hS3H:=Lib.hid hS3;have hce:=cells_of (hS3.block 1 rfl);have hfe:=frozen_of (hS3.block 1 rfl);clear hS3 hS2 hdoH;have hS4:=Lib.hid (hS3H.out.blockSet 1 rfl 4 (.int .i64 r));by_cases hr0:r=0
   ·subst hr0;go_wp2_with fail;go_ret;refine⟨rfl,?_⟩;rw[←hsfH.out,if_pos (by simp)];exact hS4.out
   ·have hr0H:=Lib.hid hr0;have er:(r==0)=false:=by simpa using hr0
    clear hr0;go_wp2_with fail;clear hce hfe hS3H;generalize w3.setCell ⟨evb,4,none⟩ (.int .i64 r)=W4 at*;obtain⟨B',hB',hS5⟩:=hp_open hS4.out;obtain⟨fl,hl,hput,hne⟩:=hS5.takePart 6 rfl;have k1:=GW.cells (S:=fl) (hS5.block 0 rfl) (hne 0 _ _ rfl);have k2:=GW.cells (S:=fl) (hS5.block 8 rfl) (hne 7 _ _ rfl);have hlH:=Lib.hid hl;have hputH:=Lib.hid hput;have hBH:=Lib.hid hB';clear hS5 hl hput hne hB';by_cases hroom:(recs s'.evs ep:Int)<c.cap
    ·have hap:=Lib.hid fun w' (hm:Mod [] W4 w')=>(show Calls Tryz.prog 34 #[.pointer (some ⟨a.gb,0,none⟩),.agg #[.int .i64 ep,.int .i64 3,.int .u64 h1,.int .u64 earg,.int .i64 r]] w' (Takes (logC a.gb c.cap (s'.evs++[⟨ep,3,h1,earg,r⟩]) s'.miss) (.int .i64 0) w' fl) by
      have:=logappend_ok (hlH.out w' hm) hok hel;have e1:appE c.cap s'.evs ⟨ep,3,h1,earg,r⟩=0:=by unfold appE;rw[if_neg];intro h;exact h.2 hroom
      have e2:appL c.cap s'.evs ⟨ep,3,h1,earg,r⟩=s'.evs++[⟨ep,3,h1,earg,r⟩]:=by unfold appL;rw[if_neg];intro h;exact h.2 hroom
      rw[e1,e2]at this;exact this)
     refine wp_region_part fl (by kernel_rfl) (by kernel_rfl) ?_;refine stage_quiet 7 (by kernel_rfl) ?_;simp only[tA,tB,tC,tD];(repeat go_big_quiet_step (fail));refine wpQuiet_nil ?_;refine stage_takes 34 #[.pointer (some ⟨a.gb,0,none⟩),.agg #[.int .i64 ep,.int .i64 3,.int .u64 h1,.int .u64 earg,.int .i64 r]] (.int .i64 0) rfl Tryz.call34 rfl rfl hap.out ?_;simp only[Act.put,sA,sB,sC];refine stage_quiet 1 (by kernel_rfl) ?_;simp only[tA,tB,tC,tD];(repeat go_big_quiet_step (fail));refine wpQuiet_nil ?_;refine stage_nil fun w5 hw5=> ?_
     have hS6:=Lib.hid (hputH.out w5 _ hw5);have hce:=cells_of (hS6.out.block 8 rfl);clear k1 k2 hap hputH hlH hw5;go_wp2_with fail;go_ret;refine⟨rfl,?_⟩;rw[←hsfH.out,if_neg (fun h=>hr0H.out h.2),logA_yes (by unfold room;simpa using hroom)];exact Scene.shut1 (c:=hpA a c {s' with evs:=s'.evs++[⟨ep,3,h1,earg,r⟩]}) (hpP a c s'.R s'.T s'.L (s'.evs++[(⟨ep,3,h1,earg,r⟩:Ev)]) s'.miss s'.st (usedH c s') B' (hasH c s')) hS6.out fun g hg=>hpA_log rfl rfl rfl rfl rfl hBH.out hg
    ·have hap:=Lib.hid fun w' (hm:Mod [] W4 w')=>(show Calls Tryz.prog 34 #[.pointer (some ⟨a.gb,0,none⟩),.agg #[.int .i64 ep,.int .i64 3,.int .u64 h1,.int .u64 earg,.int .i64 r]] w' (Takes (logC a.gb c.cap s'.evs s'.miss) (.int .i64 19) w' fl) by
      have:=logappend_ok (hlH.out w' hm) hok hel;have e1:appE c.cap s'.evs ⟨ep,3,h1,earg,r⟩=19:=by unfold appE;rw[if_pos ⟨hcn,hroom⟩]
      have e2:appL c.cap s'.evs ⟨ep,3,h1,earg,r⟩=s'.evs:=by unfold appL;rw[if_pos ⟨hcn,hroom⟩]
      rw[e1,e2]at this;exact this)
     have hmi:=Lib.hid fun w' f' (h':(logC a.gb c.cap s'.evs s'.miss).on w' f')=>logmiss_ok h' hml ep
     refine wp_region_part fl (by kernel_rfl) (by kernel_rfl) ?_;refine stage_quiet 7 (by kernel_rfl) ?_;simp only[tA,tB,tC,tD];(repeat go_big_quiet_step (fail));refine wpQuiet_nil ?_;refine stage_takes 34 #[.pointer (some ⟨a.gb,0,none⟩),.agg #[.int .i64 ep,.int .i64 3,.int .u64 h1,.int .u64 earg,.int .i64 r]] (.int .i64 19) rfl Tryz.call34 rfl rfl hap.out ?_;simp only[Act.put,sA,sB,sC];refine stage_quiet 1 (by kernel_rfl) ?_;simp only[tA,tB,tC,tD];(repeat go_big_quiet_step (fail));refine wpQuiet_nil ?_;refine stage_nil fun w5 hw5=> ?_
     have hS6:=Lib.hid (hputH.out w5 _ hw5);have hch:=cells_of (hS6.out.block 0 rfl);clear k1 k2 hap hputH hlH hw5;go_wp2_with fail;obtain⟨fm,hl,hput⟩:=hS6.out.part 6 rfl;refine(hmi.out _ _ hl).mono ?_;rintro e w6 ⟨f',rfl,q1,q2,q3⟩;have hS7:=Lib.hid (hput w6 f' _ q1 q2 q3);have hce:=cells_of (hS7.out.block 8 rfl);clear hl hput q1 q2 q3 hS6 hmi hch;go_wp2_with fail;go_ret;refine⟨rfl,?_⟩;rw[←hsfH.out,if_neg (fun h=>hr0H.out h.2),logA_no (by unfold room;simpa using hroom) hcn];exact Scene.shut1 (c:=hpA a c {s' with miss:=s'.miss++[ep]}) (hpP a c s'.R s'.T s'.L s'.evs (s'.miss++[ep]) s'.st (usedH c s') B' (hasH c s')) hS7.out fun g hg=>hpA_log rfl rfl rfl rfl rfl hBH.out hg
  ·have hS2:=Lib.hid (hSH.out.then hmH.out);clear hmH hS0H hSH;go_wp2_with fail;refine(hdoH.out _ hS2.out).mono ?_;rintro e w3 ⟨rfl,hS3⟩;have hS3H:=Lib.hid hS3;have hce:=cells_of (hS3.block 1 rfl);have hfe:=frozen_of (hS3.block 1 rfl);clear hS3 hS2 hdoH;have hS4:=Lib.hid (hS3H.out.blockSet 1 rfl 4 (.int .i64 r));by_cases hr0:r=0
   ·subst hr0;go_wp2_with fail;go_ret;refine⟨rfl,?_⟩;rw[←hsfH.out,if_pos (by simp)];exact hS4.out
   ·have hr0H:=Lib.hid hr0;have er:(r==0)=false:=by simpa using hr0
    clear hr0;go_wp2_with fail;clear hce hfe hS3H;generalize w3.setCell ⟨evb,4,none⟩ (.int .i64 r)=W4 at*;obtain⟨B',hB',hS5⟩:=hp_open hS4.out;obtain⟨fl,hl,hput,hne⟩:=hS5.takePart 6 rfl;have k1:=GW.cells (S:=fl) (hS5.block 0 rfl) (hne 0 _ _ rfl);have k2:=GW.cells (S:=fl) (hS5.block 8 rfl) (hne 7 _ _ rfl);have hlH:=Lib.hid hl;have hputH:=Lib.hid hput;have hBH:=Lib.hid hB';clear hS5 hl hput hne hB';by_cases hroom:(recs s'.evs ep:Int)<c.cap
    ·have hap:=Lib.hid fun w' (hm:Mod [] W4 w')=>(show Calls Tryz.prog 34 #[.pointer (some ⟨a.gb,0,none⟩),.agg #[.int .i64 ep,.int .i64 5,.int .u64 h1,.int .u64 earg,.int .i64 r]] w' (Takes (logC a.gb c.cap (s'.evs++[⟨ep,5,h1,earg,r⟩]) s'.miss) (.int .i64 0) w' fl) by
      have:=logappend_ok (hlH.out w' hm) hok hel;have e1:appE c.cap s'.evs ⟨ep,5,h1,earg,r⟩=0:=by unfold appE;rw[if_neg];intro h;exact h.2 hroom
      have e2:appL c.cap s'.evs ⟨ep,5,h1,earg,r⟩=s'.evs++[⟨ep,5,h1,earg,r⟩]:=by unfold appL;rw[if_neg];intro h;exact h.2 hroom
      rw[e1,e2]at this;exact this)
     refine wp_region_part fl (by kernel_rfl) (by kernel_rfl) ?_;refine stage_quiet 7 (by kernel_rfl) ?_;simp only[tA,tB,tC,tD];(repeat go_big_quiet_step (fail));refine wpQuiet_nil ?_;refine stage_takes 34 #[.pointer (some ⟨a.gb,0,none⟩),.agg #[.int .i64 ep,.int .i64 5,.int .u64 h1,.int .u64 earg,.int .i64 r]] (.int .i64 0) rfl Tryz.call34 rfl rfl hap.out ?_;simp only[Act.put,sA,sB,sC];refine stage_quiet 1 (by kernel_rfl) ?_;simp only[tA,tB,tC,tD];(repeat go_big_quiet_step (fail));refine wpQuiet_nil ?_;refine stage_nil fun w5 hw5=> ?_
     have hS6:=Lib.hid (hputH.out w5 _ hw5);have hce:=cells_of (hS6.out.block 8 rfl);clear k1 k2 hap hputH hlH hw5;go_wp2_with fail;go_ret;refine⟨rfl,?_⟩;rw[←hsfH.out,if_neg (fun h=>hr0H.out h.2),logA_yes (by unfold room;simpa using hroom)];exact Scene.shut1 (c:=hpA a c {s' with evs:=s'.evs++[⟨ep,5,h1,earg,r⟩]}) (hpP a c s'.R s'.T s'.L (s'.evs++[(⟨ep,5,h1,earg,r⟩:Ev)]) s'.miss s'.st (usedH c s') B' (hasH c s')) hS6.out fun g hg=>hpA_log rfl rfl rfl rfl rfl hBH.out hg
    ·have hap:=Lib.hid fun w' (hm:Mod [] W4 w')=>(show Calls Tryz.prog 34 #[.pointer (some ⟨a.gb,0,none⟩),.agg #[.int .i64 ep,.int .i64 5,.int .u64 h1,.int .u64 earg,.int .i64 r]] w' (Takes (logC a.gb c.cap s'.evs s'.miss) (.int .i64 19) w' fl) by
      have:=logappend_ok (hlH.out w' hm) hok hel;have e1:appE c.cap s'.evs ⟨ep,5,h1,earg,r⟩=19:=by unfold appE;rw[if_pos ⟨hcn,hroom⟩]
      have e2:appL c.cap s'.evs ⟨ep,5,h1,earg,r⟩=s'.evs:=by unfold appL;rw[if_pos ⟨hcn,hroom⟩]
      rw[e1,e2]at this;exact this)
     have hmi:=Lib.hid fun w' f' (h':(logC a.gb c.cap s'.evs s'.miss).on w' f')=>logmiss_ok h' hml ep
     refine wp_region_part fl (by kernel_rfl) (by kernel_rfl) ?_;refine stage_quiet 7 (by kernel_rfl) ?_;simp only[tA,tB,tC,tD];(repeat go_big_quiet_step (fail));refine wpQuiet_nil ?_;refine stage_takes 34 #[.pointer (some ⟨a.gb,0,none⟩),.agg #[.int .i64 ep,.int .i64 5,.int .u64 h1,.int .u64 earg,.int .i64 r]] (.int .i64 19) rfl Tryz.call34 rfl rfl hap.out ?_;simp only[Act.put,sA,sB,sC];refine stage_quiet 1 (by kernel_rfl) ?_;simp only[tA,tB,tC,tD];(repeat go_big_quiet_step (fail));refine wpQuiet_nil ?_;refine stage_nil fun w5 hw5=> ?_
     have hS6:=Lib.hid (hputH.out w5 _ hw5);have hch:=cells_of (hS6.out.block 0 rfl);clear k1 k2 hap hputH hlH hw5;go_wp2_with fail;obtain⟨fm,hl,hput⟩:=hS6.out.part 6 rfl;refine(hmi.out _ _ hl).mono ?_;rintro e w6 ⟨f',rfl,q1,q2,q3⟩;have hS7:=Lib.hid (hput w6 f' _ q1 q2 q3);have hce:=cells_of (hS7.out.block 8 rfl);clear hl hput q1 q2 q3 hS6 hmi hch;go_wp2_with fail;go_ret;refine⟨rfl,?_⟩;rw[←hsfH.out,if_neg (fun h=>hr0H.out h.2),logA_no (by unfold room;simpa using hroom) hcn];exact Scene.shut1 (c:=hpA a c {s' with miss:=s'.miss++[ep]}) (hpP a c s'.R s'.T s'.L s'.evs (s'.miss++[ep]) s'.st (usedH c s') B' (hasH c s')) hS7.out fun g hg=>hpA_log rfl rfl rfl rfl rfl hBH.out hg
end
end Go.Proofs.YteidpgdfocjdbaaGreat
