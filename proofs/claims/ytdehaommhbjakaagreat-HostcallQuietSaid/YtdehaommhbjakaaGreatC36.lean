/- Joined contracts. No conditions. -/
import Derived.Test.YtdehaommhbjakaaGreatC35
set_option maxHeartbeats 4000000
set_option maxRecDepth 20000
namespace Go.Proofs.YtdehaommhbjakaaGreat
open RowKit Stg
abbrev lN (rb:Nat) (cs:Array Value) (T:TypeId) (evs:List Ev):ai:=nH 19 rb cs T 100 5 evs.length (flat bC evs)
theorem Gj (evs:List Ev):∀u∈flat bC evs,u.oneCell'=true:=by
 induction evs with
 |nil=>simp[flat]
 |cons e l ih=>
  intro u hu;simp only[flat,List.flatMap_cons,List.mem_append]at hu;exact hu.elim (rI e u) (ih u)
theorem D2:qE Tryz.prog 130 100 5 40:=by
 obtain⟨i,h1,h2,h3,h4⟩:=info_parts tq;exact⟨i,_,Tryz.underlying130,h1,h2,h3,h4,rfl,by decide⟩
theorem Bi (rb:Nat) (cs:Array Value) (T:TypeId) (evs:List Ev) (e:Ev):lN rb cs T (evs++[e])=nH 19 rb cs T 100 5 (evs.length+1) (flat bC evs++bC e):=by
 unfold lN;rw[List.length_append,lY,mg];rfl
section
variable {rb:Nat} {cs:Array Value} {T:TypeId} {evs:List Ev} {w:World} {f:List Nat} {cap:Int} (h:(lN rb cs T evs).on w f) (hcap:cs[18]? =some (.int .i64 cap)) (hl:evs.length≤100000) {e:Ev} (he:e.ok)
include h hcap hl he
theorem zY (hc:e.counts=false):Calls Tryz.prog 49 #[.pointer (some ⟨rb,18,none⟩),.agg #[.int .i64 e.p,.int .i64 e.op,.int .u64 e.h,.int .u64 e.arg,.int .i64 e.err]] w (bD (lN rb cs T (evs++[e])) (.int .i64 0) w f):=by
 obtain⟨v,hb,hr, -⟩:=vC h;have hm0:=(Mod.refl [] w).alloc (.cells #[.int .i64 e.p,.int .i64 e.op,.int .u64 e.h,.int .u64 e.arg,.int .i64 e.err] 100);have hy:=an w (.cells #[.int .i64 e.p,.int .i64 e.op,.int .u64 e.h,.int .u64 e.arg,.int .i64 e.err] 100);have hbH:=zh hb;have hrH:=zh hr;have hhH:=zh h;have hck:=zh (Bt he);have hco:=zh (vE e);have hrm:=zh fun w' (hm:Mod [] w w')=>DU (hb.mod hm (by simp)) (aG hr hm (by simp)) (by omega) hcap e.p
 have hc0:=ae hy;clear hb hr hcap he h;go_enter Tryz.func49,Tryz.ntmps49;go_wp2_with fail;generalize hbx:w.heap.size=bx at*;generalize w.alloc (.cells #[.int .i64 e.p,.int .i64 e.op,.int .u64 e.h,.int .u64 e.arg,.int .i64 e.err] 100)=W0 at*;refine(hck.out _).mono ?_;rintro e1 w1 ⟨rfl,hm1⟩;have hy1:=hm1.at hy (by simp);have hm1:=hm0.ag hm1;have hc1:=ae hy1;clear hc0 hm0 hck hy;go_wp2_with fail;refine(hco.out _).mono ?_;rintro e2 w2 ⟨rfl,hm2⟩;have hy2:=hm2.at hy1 (by simp);have hm2:=hm1.ag hm2;have hc2:=ae hy2;clear hc1 hm1 hco hy1;rw[hc];clear hrm hc;go_wp2_with fail;have hyH:=zh (hy2);have hmH:=zh (hm2);have k1:=GW.cells (S:=[]) hyH.out (by simp);have k2:=GW.site (S:=[]) (hbH.out.mod hmH.out (by simp)) (by simp);have hty:=zh D2;have hsrc:=zh fun w' (h:Mod [] w2 w')=>Ty.lF (aG hrH.out (hmH.out.ag h) (by simp))
 have hon:=zh (Gj evs);have hel:=zh (rI e);have hcs:=zh fun w' (h:Mod [] w2 w')=>hbH.out.mod (hmH.out.ag h) (by simp)
 apply Gi (fun g cap w'=>∃wz,w'=wz.setCell ⟨rb,19,none⟩ (.slice (some ⟨g,0,none⟩) ((evs.length)+1) cap)∧jA w2 100 5 (.slice (some ⟨g,0,none⟩) ((evs.length)+1) cap) ((evs.length)+1) ((flat bC evs)++(bC e)) wz)
 ·refine uh 8 8 [7,0,1,2,3,4,5,6,8,9,10,11,12] _ (fun w'=>∃x:GW [] w2,w'=x.1) (fun w'=>Mod [] w2 w') (by kernel_rfl) rfl rfl (by kernel_rfl) (by kernel_rfl) rfl (by decide) (by kernel_rfl) (fun _ h=>ah.of h) (Mod.refl _ _).drew ?_;simp only[nx,List.filterMap_cons,List.filterMap_nil,List.getElem?_cons_zero,List.getElem?_cons_succ];dsimp only[List.getElem_toArray,List.getElem_cons_succ,List.getElem_cons_zero];refine dd 2 (by kernel_rfl) (by decide) ?_;simp only[tA,tB,tC,tD,Nat.reduceAdd];(repeat go_big_quiet_step (fail));refine wpQuiet_nil ?_;refine fh (by decide) rfl rfl ?A rfl (by simp) ?B
  case A=>
   refine sj (fun s=>.slice (some ⟨s,0,none⟩) 0 0) (.cells #[] 100 (0,0)) (fun s w'=>jA w2 100 5 (.slice (some ⟨s,0,none⟩) 0 0) 0 [] w') (by intro s s' h;simpa using h) (fun w' hw=>by kernel_rfl) (fun w' hw=>xI hw) (fun s w' h=>ah.of h.1) (fun s=> ?_);simp only[Act.put,sA,sB,sC];refine dd 4 (by kernel_rfl) (by decide) ?_;simp only[tA,tB,tC,tD,Nat.reduceAdd];(repeat go_big_quiet_step (fail));refine wpQuiet_nil ?_;refine fh (by decide) rfl rfl ?A2 rfl (by simp) ?B2
   case A2=>
    refine oI (fun u=>∃a l c,u=.slice a l c) (fun u w'=>jA w2 100 5 u (evs.length) (flat bC evs) w') ⟨_,none,0,0,rfl⟩ (fun w' hw=>GR _ _ rfl rfl rfl (hty).out hw ((hsrc).out w' hw.1) (gZ (f:=bC) (m:=5) (fun _=>rfl) evs) (hon).out (by unfold maxLen;omega) (by omega)) (fun u w' h=>ah.of h.1) (fun u hu=> ?_);obtain⟨ua,um,uc,rfl⟩:=hu;simp only[Act.put,sA,sB,sC];refine ia ?_;refine aO (fun s=>.slice (some ⟨s,0,none⟩) 1 1) (.cells (bC e).toArray 100 (0,0)) (fun b w'=>kq w2 100 5 (.slice ua um uc) (evs.length) (flat bC evs) b (bC e) w') (by intro s s' h;simpa using h) rfl rfl (fun w' hw=>by kernel_rfl) (fun w' hw=>xx hw) (fun s w' h=>ah.of h.1.1) (fun b=> ?_);simp only[Act.put,sA,sB,sC];refine cP (fun u=>∃g cap,u=.slice (some ⟨g,0,none⟩) ((evs.length)+1) cap) (fun u w'=>jA w2 100 5 u ((evs.length)+1) ((flat bC evs)++(bC e)) w') rfl rfl ⟨_,0,0,rfl⟩ (fun w' hw=>tJ _ _ rfl rfl rfl (hty).out hw rfl (hel).out (by unfold maxLen;omega) (by omega)) (fun u w' h=>ah.of h.1) (fun u hu=> ?_);obtain⟨g,cap,rfl⟩:=hu;refine sq 2 ?_;refine dq (p:=⟨rb,19,none⟩) (u:=.slice (some ⟨g,0,none⟩) ((evs.length)+1) cap) (fun w'=>w'.setCell ⟨rb,19,none⟩ (.slice (some ⟨g,0,none⟩) ((evs.length)+1) cap)) rfl rfl (by kernel_rfl) rfl rfl rfl (fun w' hw=> ?_) (fun w' hw=>⟨trivial,s,ua,um,uc,b,g,cap,rfl,w',rfl,hw⟩);have c1:=(hcs).out w' hw.1;have f1:=c1.frozen;have c1:=c1.cell;go_simp
   case B2=>
    simp only[Nat.reduceSub,List.eraseIdx_cons_succ,List.eraseIdx_cons_zero];refine aO (fun s=>.slice (some ⟨s,0,none⟩) 1 1) (.cells (bC e).toArray 100 (0,0)) (fun b w'=>kq w2 100 5 (.slice (some ⟨s,0,none⟩) 0 0) 0 [] b (bC e) w') (by intro s s' h;simpa using h) rfl rfl (fun w' hw=>by kernel_rfl) (fun w' hw=>xx hw) (fun s w' h=>ah.of h.1.1) (fun b=> ?_);simp only[Act.put,sA,sB,sC];refine cP (fun u=>∃a l c,u=.slice a l c) (fun u w'=>kq w2 100 5 u (evs.length) (flat bC evs) b (bC e) w') rfl rfl ⟨_,none,0,0,rfl⟩ (fun w' hw=>yR _ _ rfl rfl rfl (hty).out hw ((hsrc).out w' hw.1.1) (gZ (f:=bC) (m:=5) (fun _=>rfl) evs) (hon).out (by unfold maxLen;omega) (by omega)) (fun u w' h=>ah.of h.1.1) (fun u hu=> ?_);obtain⟨ua,um,uc,rfl⟩:=hu;simp only[Act.put,sA,sB,sC];refine cP (fun u=>∃g cap,u=.slice (some ⟨g,0,none⟩) ((evs.length)+1) cap) (fun u w'=>jA w2 100 5 u ((evs.length)+1) ((flat bC evs)++(bC e)) w') rfl rfl ⟨_,0,0,rfl⟩ (fun w' hw=>tJ _ _ rfl rfl rfl (hty).out hw rfl (hel).out (by unfold maxLen;omega) (by omega)) (fun u w' h=>ah.of h.1) (fun u hu=> ?_);obtain⟨g,cap,rfl⟩:=hu;refine sq 2 ?_;refine dq (p:=⟨rb,19,none⟩) (u:=.slice (some ⟨g,0,none⟩) ((evs.length)+1) cap) (fun w'=>w'.setCell ⟨rb,19,none⟩ (.slice (some ⟨g,0,none⟩) ((evs.length)+1) cap)) rfl rfl (by kernel_rfl) rfl rfl rfl (fun w' hw=> ?_) (fun w' hw=>⟨trivial,s,ua,um,uc,b,g,cap,rfl,w',rfl,hw⟩);have c1:=(hcs).out w' hw.1;have f1:=c1.frozen;have c1:=c1.cell;go_simp
  case B=>
   simp only[Nat.reduceSub,List.eraseIdx_cons_succ,List.eraseIdx_cons_zero];refine aO (fun s=>.slice (some ⟨s,0,none⟩) 1 1) (.cells (bC e).toArray 100 (0,0)) (fun b w'=>qR w2 100 b (bC e) w') (by intro s s' h;simpa using h) rfl rfl (fun w' hw=>by kernel_rfl) (fun w' hw=>wW hw) (fun s w' h=>ah.of h.1) (fun b=> ?_);simp only[Act.put,sA,sB,sC];refine aO (fun s=>.slice (some ⟨s,0,none⟩) 0 0) (.cells #[] 100 (0,0)) (fun s w'=>kq w2 100 5 (.slice (some ⟨s,0,none⟩) 0 0) 0 [] b (bC e) w') (by intro s s' h;simpa using h) rfl rfl (fun w' hw=>by kernel_rfl) (fun w' hw=>EH hw) (fun s w' h=>ah.of h.1.1) (fun s=> ?_);refine sq 4 ?_;refine cP (fun u=>∃a l c,u=.slice a l c) (fun u w'=>kq w2 100 5 u (evs.length) (flat bC evs) b (bC e) w') rfl rfl ⟨_,none,0,0,rfl⟩ (fun w' hw=>yR _ _ rfl rfl rfl (hty).out hw ((hsrc).out w' hw.1.1) (gZ (f:=bC) (m:=5) (fun _=>rfl) evs) (hon).out (by unfold maxLen;omega) (by omega)) (fun u w' h=>ah.of h.1.1) (fun u hu=> ?_);obtain⟨ua,um,uc,rfl⟩:=hu;simp only[Act.put,sA,sB,sC];refine cP (fun u=>∃g cap,u=.slice (some ⟨g,0,none⟩) ((evs.length)+1) cap) (fun u w'=>jA w2 100 5 u ((evs.length)+1) ((flat bC evs)++(bC e)) w') rfl rfl ⟨_,0,0,rfl⟩ (fun w' hw=>tJ _ _ rfl rfl rfl (hty).out hw rfl (hel).out (by unfold maxLen;omega) (by omega)) (fun u w' h=>ah.of h.1) (fun u hu=> ?_);obtain⟨g,cap,rfl⟩:=hu;refine sq 2 ?_;refine dq (p:=⟨rb,19,none⟩) (u:=.slice (some ⟨g,0,none⟩) ((evs.length)+1) cap) (fun w'=>w'.setCell ⟨rb,19,none⟩ (.slice (some ⟨g,0,none⟩) ((evs.length)+1) cap)) rfl rfl (by kernel_rfl) rfl rfl rfl (fun w' hw=> ?_) (fun w' hw=>⟨trivial,s,ua,um,uc,b,g,cap,rfl,w',rfl,hw⟩);have c1:=(hcs).out w' hw.1;have f1:=c1.frozen;have c1:=c1.cell;go_simp
 intro s ua um uc b g cap2 w4 ⟨w5,hw4,hR⟩;subst hw4;clear k1 k2;go_wp2_with fail;go_ret;rw[Bi];exact E3 hhH.out (hmH.out.ag hR.1) (aE hR.2 (by rw[hbx];exact Nat.le_trans (by rw[←hbx];exact Nat.le_refl _) hmH.out.size))
end
end Go.Proofs.YtdehaommhbjakaaGreat
namespace Go.Proofs.YtdehaommhbjakaaGreat
open RowKit Stg
open Ty (ax)
section
variable {F:List Nat} {W w:World} {cs:List ai} {a:RA} {c:HC} {d:RD} {P:Program} {fn:FuncId} {args:Array Value} {val:Value} (h:af F W (fT a c d::cs) w)
theorem Ew {k b:Nat} {xs:Array Value} {T:TypeId} {v:Value} {r:ai} {w:World} {f:List Nat} (hk:k<xs.size) (hv:xs[k]? =some v) (h:(ai.all [aj b (.cells xs T (0,0)),r]).on w f):aU [kR k b xs T v,r] w f:=by
 obtain⟨f1,g1,h1,h2,h3,h4⟩:=h;exact⟨f1,g1,yM hk hv h1,h2,h3,h4⟩
theorem E0 {k b:Nat} {xs ys:Array Value} {T:TypeId} {v:Value} {r:ai} {w:World} {f:List Nat} (e:xs.setIfInBounds k v=ys) (h:aU [kR k b xs T v,r] w f):(ai.all [aj b (.cells ys T (0,0)),r]).on w f:=by
 obtain⟨f1,g1,h1,h2,h3,h4⟩:=h;subst e;exact⟨f1,g1,yD h1,h2,h3,h4⟩
include h
omit h
abbrev GK (u:Value) (M:List Ev):ai:=aT u M.length 100 5 (flat bC M)
include h
theorem GV {M:List Ev} (hc:∀xs f,(xs[10]? =some (.int .i64 c.size)∧xs[18]? =some (.int .i64 c.cap))→(lN a.rb xs 135 d.evs).on w f→Calls P fn args w (bD (lN a.rb xs 135 M) val w f)):
  Calls P fn args w fun e w'=>e=.returned val∧af F W (fT a c {d with evs:=M}::cs) w':=by
 obtain⟨v,TL,BL,e1,e2,hS⟩:=s6 h;refine(D0 6 (val:=val) (c0:=lN a.rb (nL a c v) 135 d.evs) (c1:=lN a.rb (nL a c v) 135 M) (fun u=>(aj a.rb (pg a c {v with ev:=u}),GK u M)) hS rfl (fun g hg=>⟨v.ev,Ew (show 19<23 by omega) rfl hg⟩) (fun f hf=>hc _ f ⟨rfl,rfl⟩ hf) (fun w' g ⟨u,hu⟩=>⟨u,E0 rfl hu⟩)).mono ?_;rintro e w' ⟨he,u,hS'⟩;exact⟨he,tz (v:={v with ev:=u}) (TL:=TL) (BL:=BL) e1 e2 hS'⟩
end
end Go.Proofs.YtdehaommhbjakaaGreat
namespace Go.Proofs.YtdehaommhbjakaaGreat
open RowKit Stg
theorem sL (st:Int→Int) {m:Nat} (h:m<65):(ki st)[m]? =some (.int .i64 (st m)):=by
 unfold ki;rw[List.getElem?_map,List.getElem?_range h];rfl
theorem sF (st:Int→Int):(ki st).length=65:=by simp[ki]
theorem Dj (st:Int→Int) (m:Nat) (v:Int):(ki st).set m (.int .i64 v)=ki (eJ st m v):=by
 apply List.ext_getElem?;intro i;by_cases hi:i<65
 ·rw[List.getElem?_set,sL _ hi,sL _ hi];unfold eJ;by_cases e:m=i
  ·subst e;rw[if_pos rfl,if_pos (by rw[sF];exact hi),if_pos rfl]
  ·rw[if_neg e,if_neg (by omega)]
 ·rw[List.getElem?_eq_none (by rw[List.length_set,sF];omega),List.getElem?_eq_none (by rw[sF];omega)]
theorem zQ {F:List Nat} {W w:World} {cs:List ai} (i:Nat) {g n cap:Nat} {e:TypeId} {xs:List Value} (h:af F W cs w) (hi:cs[i]? =some (aT (.slice (some ⟨g,0,none⟩) n cap) n e 1 xs)) {m:Nat} (_:m<n) (u:Value):
  af F W (cs.set i (aT (.slice (some ⟨g,0,none⟩) n cap) n e 1 (xs.set m u))) (w.setCell ⟨g,m,none⟩ u):=by
 obtain⟨f,⟨h1,hf⟩,hk⟩:=h.part i hi;subst hf;exact hk _ _ _ ⟨(h1.stored m u).1,rfl⟩ ((Mod.refl _ w).setCell (.inl (by simp[Value.ownBlock])) u) (fun x hx=>.inl hx)
def np (d:RD) (p:Int):Int×RD:=
 if p<1∨64<p then(15,d)else if d.st p≠0 then(28,d)else(0,{d with st:=eJ d.st p 1,evs:=d.evs++[⟨p,32,0,0,0⟩]})
section
variable {F:List Nat} {W w:World} {cs:List ai} {a:RA} {c:HC} {d:RD} (hS:af F W (fT a c d::cs) w)
include hS
theorem BS (hl:d.evs.length≤100000) (p:Int):Calls Tryz.prog 18 #[.pointer (some ⟨a.rb,0,none⟩),.int .i64 p] w fun e w'=>e=.returned (.int .i64 (np d p).1)∧af F W (fT a c (np d p).2::cs) w':=by
 unfold np;by_cases h1:p<1∨64<p
 ·rw[if_pos h1];have hSH:=zh hS;clear hS;by_cases h2:p<1
  ·clear h1;go_enter Tryz.func18,Tryz.ntmps18;go_wp2_with fail;go_ret;exact⟨rfl,hSH.out⟩
  ·have h3:64<p:=by omega
   clear h1;go_enter Tryz.func18,Tryz.ntmps18;go_wp2_with fail;go_ret;exact⟨rfl,hSH.out⟩
 ·rw[if_neg h1];obtain⟨m,rfl⟩:∃m:Nat,p=m:=⟨p.toNat,by omega⟩;have e1:decide ((m:Int)<1)=false:=by simp;omega
  have e2:decide ((m:Int)>64)=false:=by simp;omega
  have hm:m<65:=by omega
  have hok:(⟨m,32,0,0,0⟩:Ev).ok:=⟨by simp only;omega,.inr (.inl rfl),by simp,by simp,by simp⟩;clear h1;obtain⟨v,TL,BL,q1,q2,h⟩:=s6 hS;have hr:=h.row 11 rfl;obtain⟨g,cap,hv,_,hg⟩:=cW hr (by omega);obtain⟨v0,v1,v2,v3,v4,v5,v6,v7⟩:=v;simp only at hv hr;subst hv;have hc:w.cell? ⟨g,m,none⟩=some (.int .i64 (d.st m)):=(hr.cellAt m hm).trans (sL _ hm);have hfz:=hr.frozenAt;have hb:=h.block 0 rfl;have cb:=ae hb;unfold nL at cb;simp only at cb;by_cases h2:d.st m=0
  ·rw[if_neg (by simpa using h2)];rw[h2]at hc;have h3:=zQ 11 h rfl hm (.int .i64 1);rw[Dj]at h3;have h4:af F W (fT a c {d with st:=eJ d.st m 1}::cs) (w.setCell ⟨g,m,none⟩ (.int .i64 1)):=tz (v:=⟨v0,v1,v2,v3,v4,v5,v6,.slice (some ⟨g,0,none⟩) 65 cap⟩) (TL:=TL) (BL:=BL) q1 q2 h3;have hA:=zh (GV h4 (P:=Tryz.prog) (fn:=49) (args:=#[.pointer (some ⟨a.rb,18,none⟩),.agg #[.int .i64 m,.int .i64 32,.int .u64 0,.int .u64 0,.int .i64 0]]) (val:=.int .i64 0) (M:=d.evs++[⟨m,32,0,0,0⟩]) fun xs f hx hon=>zY (e:=⟨m,32,0,0,0⟩) hon hx.2 hl hok rfl);clear hS h2 h h3 h4 hr hb hok hl;go_enter Tryz.func18,Tryz.ntmps18;go_wp2_with fail;refine hA.out.mono ?_;rintro e w1 ⟨rfl,hS1⟩;have hS1:=zh hS1;clear hA hfz hc cb;go_wp2_with fail;go_ret;exact⟨rfl,hS1.out⟩
  ·rw[if_pos h2];have z:(d.st m != 0)=true:=by simpa using h2
   have hSH:=zh hS;clear hS h2 hb hg h hr hok;generalize d.st m=z1 at*;go_enter Tryz.func18,Tryz.ntmps18;go_wp2_with fail;go_ret;exact⟨rfl,hSH.out⟩
end
end Go.Proofs.YtdehaommhbjakaaGreat
namespace Go.Proofs.YtdehaommhbjakaaGreat
open RowKit Stg
theorem sN {c:HC} {k:Nat} {s:HS} (hI:az c k s) {j:Nat} (hj:j<c.n) (hl:(Tb.aC s.T.g.S j).2=true):∃(o l:Nat),(Tb.aD s.T.E j).off=o∧(Tb.aD s.T.E j).len=l∧0<l∧(bH s j).length≤l:=by
 have hm:=List.mem_map_of_mem (f:=dD) (ic (c:=c) hj hl);obtain⟨⟨h1,h2,_⟩,_⟩:=hI.eA.ok _ hm;unfold dD at h1 h2;simp only at h1 h2;obtain⟨_,ht,hr⟩:=hI.cG _ (ic hj hl);have hsz:=hI.mem j hj hl;have hty:Ty.du (ja s (Tb.aD s.T.E j).tag):=by
  refine hI.kA _ ?_;unfold ja Ty.aN;rw[if_pos ht,List.getD_eq_getElem?_getD,List.getElem?_eq_getElem (by omega)];exact List.getElem_mem _
 have hs1:=size_pos hty;have hrs:=nU hs1.1 hs1.2;have e1:bI s (Tb.aD s.T.E j).tag=Ty.cC (ja s (Tb.aD s.T.E j).tag).1 (ja s (Tb.aD s.T.E j).tag).2:=rfl;rw[e1]at hr hsz;exact⟨(Tb.aD s.T.E j).off.toNat,(Tb.aD s.T.E j).len.toNat,by omega,by omega,by omega,by omega⟩
theorem GN {F:List Nat} {W w:World} {cs:List ai} {a:HA} {c:HC} {k:Nat} {s:HS} (hc:c.Ok) (hI:az c k s) (hk:k≤1000) {p o:Int} (o0:0≤o) (o1:o≤18446744073709551615) {e0:ai} {bo bp bh:Nat}
  (hS:af F W (aB a c s::e0::aj bo (.cells #[.int .u64 o] 59 (0,0))::aj bp (.cells #[.int .i64 p] 3 (0,0))::aj bh (.cells #[.pointer (some ⟨a.hb,0,none⟩)] 26 (0,0))::cs) w):
  Calls Tryz.prog 108 #[.pointer (some ⟨bh,0,none⟩),.pointer (some ⟨bp,0,none⟩),.pointer (some ⟨bo,0,none⟩)] w fun e w'=>e=.returned (.int .i64 (jr s p o).1)∧af F W (aB a c (jr s p o).2::e0::aj bo (.cells #[.int .u64 o] 59 (0,0))::aj bp (.cells #[.int .i64 p] 3 (0,0))::aj bh (.cells #[.pointer (some ⟨a.hb,0,none⟩)] 26 (0,0))::cs) w':=by
 obtain⟨B,hB,hS0⟩:=eE hS;have hrs:=zh (lr hc hI hk hS0 p o 3 o0 o1);have c1:=ae (hS0.block 9 rfl);have c2:=ae (hS0.block 10 rfl);have c3:=ae (hS0.block 11 rfl);by_cases hE:aV s p o 3=0
 ·have hfd:jr s p o=(0,il s o):=by unfold jr;rw[if_neg (by simp[hE])]
  have hr0:=gi hE;obtain⟨hown,hnob⟩:=wV hI hE;obtain⟨j,hj,hjn,hlv,hent,hho⟩:=lC hI hr0;obtain⟨xo,xl,ho,hl,hl0,_⟩:=sN hI hjn hlv;have hg:=xg hI hr0 hj hnob;rw[hent]at hown;rw[hfd];rw[hE,kI hE,hent]at hrs;generalize hx:Tb.aD s.T.E j=X at*;obtain⟨xh,xw,xt,xf,xn⟩:=X;simp only at ho hl hho hown hg;subst ho hl hho hown;obtain⟨UA,UC,hu1,hu2⟩:=CZ hg;simp only[dD]at hu1;rw[hu1]at hS0;simp only[Tb.b8]at hrs;have hdr:=zh fun(w':World) (fm:Int→Qt.Q) (cs':List ai) (h':af F W (gF a c s.R s.T s.L s.evs s.miss s.st (UA++((xo:Int),(xl:Int))::UC) B fm++cs') w')=>Fo (x:=⟨xh,xw,xt,xo,xl⟩) rfl rfl h' hc hI.ew o0 o1
  have hS1:=zh hS0;have hgH:=zh hg;have hIH:=zh hI;have hBH:=zh hB;clear hS hS0 hB hg hfd hE hr0 hnob hj hlv hent;go_enter Tryz.func108,Tryz.ntmps108;go_wp2_with fail;refine hrs.out.mono ?_;rintro e w1 ⟨rfl,hm1⟩;have hS2:=zh ((hS1.out.then hm1).alloc (.cells #[.int .u64 xh,.int .i64 xw,.int .i64 xt,.int .i64 xo,.int .i64 xl] 106)).behind;clear hm1 hrs hS1 c1 c2 c3;go_wp2_with fail;generalize w1.alloc (.cells #[.int .u64 xh,.int .i64 xw,.int .i64 xt,.int .i64 xo,.int .i64 xl] 106)=W1 at*;generalize w1.heap.size=bx at*;obtain⟨fa,hl,hput,hne⟩:=hS2.out.dJ 5 rfl;have k1:=GW.cells (S:=fa) (hS2.out.block 0 rfl) (hne 0 _ _ rfl);have k2:=GW.cells (S:=fa) (hS2.out.block 8 rfl) (hne 7 _ _ rfl);have k3:=GW.cells (S:=fa) (hS2.out.block 11 rfl) (hne 10 _ _ rfl);have k4:=GW.cells (S:=fa) (hS2.out.block 12 rfl) (hne 11 _ _ rfl);have hsub:Qt.kp (aF c s xw) (wq xl)=0:=xC hc hgH.out (by simp[dD]);have hlH:=zh fun w' hm=>tt (hl w' hm) xw (wq xl) hsub
  have hwt:=zh fun w'=>sg ⟨xh,xw,xt,xo,xl⟩ w'
  have hputH:=zh hput;clear hl hput hne hS2 hsub;refine bV fa (by kernel_rfl) (by kernel_rfl) ?_;refine sq 6 ?_;refine cX 110 #[.agg #[.int .u64 xh,.int .i64 xw,.int .i64 xt,.int .i64 xo,.int .i64 xl]] (.agg #[.int .i64 xl,.int .i64 1,.int .i64 0]) rfl Tryz.call110 rfl rfl (fun w' _=>hwt.out w') ?_;simp only[Act.put,sA,sB,sC];refine cE 109 #[.pointer (some ⟨a.mb,0,none⟩),.int .i64 xw,.agg #[.int .i64 xl,.int .i64 1,.int .i64 0]] (.int .i64 0) rfl Tryz.call109 rfl rfl hlH.out ?_;simp only[Act.put,sA,sB,sC];refine au fun w2 aP=> ?_
  have hS3:=zh (hputH.out w2 _ aP);have c1:=ae (hS3.out.block 8 rfl);have c2:=ae (hS3.out.block 12 rfl);clear k1 k2 k3 k4 hlH hwt hputH aP;go_wp2_with fail;refine(hdr.out w2 _ _ hS3.out).mono ?_;rintro e w3 ⟨rfl,hS4⟩;have hS4:=zh (hS4.erase 8);clear hS3 hdr c1 c2;go_wp2_with fail;go_ret;refine⟨rfl,?_⟩;exact jg (s':=il s xh) hu2.symm (fun q=>EL hgH.out q) (by have:=CG hIH.out hgH.out hBH.out;simpa[dD]using this) hS4.out
 ·have hfd:jr s p o=(aV s p o 3,s):=by unfold jr;rw[if_pos hE]
  rw[hfd];rw[j3 hE]at hrs;generalize aV s p o 3=E at*;have hne:(E != 0)=true:=by simpa using hE
  have hS1:=zh hS0;have hBH:=zh hB;clear hS hS0 hB hfd hE;go_enter Tryz.func108,Tryz.ntmps108;go_wp2_with fail;refine hrs.out.mono ?_;rintro e w1 ⟨rfl,hm1⟩;have hS2:=zh ((hS1.out.then hm1).then ((Mod.refl [] w1).alloc (.cells #[.int .u64 0,.int .i64 0,.int .i64 0,.int .i64 0,.int .i64 0] 106)));clear hm1 hrs hS1 c1 c2 c3;go_wp2_with fail;go_ret;exact⟨rfl,cz hBH.out hS2.out⟩
theorem Gl {F:List Nat} {W w:World} {cs:List ai} {a:HA} {c:HC} {k:Nat} {s:HS} (hc:c.Ok) (hI:az c k s) (hk:k≤900) {p o:Int} (o0:0≤o) (o1:o≤18446744073709551615) (hS:af F W (aB a c s::cs) w):
  Calls Tryz.prog 54 #[.pointer (some ⟨a.hb,0,none⟩),.int .i64 p,.int .u64 o] w fun e w'=>e=.returned (.int .i64 (mx c s p o).1)∧af F W (aB a c (mx c s p o).2::cs) w':=by
 have hr:=kC hI p o 3;have hS1:=((((((hS.alloc (.cells #[.pointer (some ⟨a.hb,0,none⟩)] 26)).swap.alloc (.cells #[.int .i64 p] 3)).swap.alloc (.cells #[.int .u64 o] 59)).swap.alloc (.cells #[.int .i64 p,.int .i64 2,.int .u64 o,.int .u64 0,.int .i64 0] 100)).swap));simp only[size_alloc]at hS1;have hact:=zh (lD (rs:=jr s p o) (h1:=o) (g:=108) hI (by omega) hS1 (by omega) (by omega) (by omega) Tryz.call108 (by unfold jr;split<;>simp<;>omega) ⟨o0,o1⟩ (by unfold jr;split<;>rfl) (by unfold jr;split<;>rfl) fun _ w' h'=>GN hc hI (by omega) o0 o1 h');unfold mx;generalize act c s p 2 o 0 (jr s p o)=res at*;clear hS hr hS1;go_enter Tryz.func54,Tryz.ntmps54;go_wp2_with fail;refine hact.out.mono ?_;rintro e w1 ⟨rfl,eh2,er2,hS2,_⟩;have hS2:=zh hS2;clear hact;go_wp2_with fail;go_ret;exact⟨rfl,(((hS2.out.erase 1).erase 1).erase 1).erase 1⟩
end Go.Proofs.YtdehaommhbjakaaGreat
