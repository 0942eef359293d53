/- Joined contracts. No conditions. -/
import Derived.Test.YtgfdeiijblakfaaGreatCS
import Derived.Test.YtgfdeiijblakfaaGreatC07
import Derived.Test.YtgfdeiijblakfaaGreatC15
import Derived.Test.YtgfdeiijblakfaaGreatC25
import Derived.Test.YtgfdeiijblakfaaGreatC27
set_option maxHeartbeats 1000000
set_option maxRecDepth 20000
namespace Go.Proofs.YtgfdeiijblakfaaGreat
open Go Go.RowKit Go.Stg
def CntAt (w:World) (mo:Option Nat) (g:Int→Nat):Prop:=
 match mo with
 |none=>∀k,g k=0
 |some bm=>∃es c,w.heap[bm]? =some (.map es c)∧IKeys es.toList∧∀k,(mget k es.toList).getD (.int .i64 0)=.int .i64 (g k)
theorem CntAt.mod {S:List Nat} {w w':World} {mo:Option Nat} {g:Int→Nat} (h:CntAt w mo g) (hm:Mod S w w') (hS:∀x,mo=some x→x∉S):CntAt w' mo g:=by
 cases mo with
 |none=>exact h
 |some b=>exact let ⟨es,c,h1,h2,h3⟩:=h;⟨es,c,hm.at h1 (hS b rfl),h2,h3⟩
theorem CntAt.lt {w:World} {mo:Option Nat} {g:Int→Nat} (h:CntAt w mo g):∀x,mo=some x→x<w.heap.size:=by
 intro x hx;subst hx;obtain⟨es,c,h1,_⟩:=h;exact lt_of h1
theorem CntAt.look {w:World} {mo:Option Nat} {g:Int→Nat} (h:CntAt w mo g) (k:Int):
  (Instr.lookup 89 (.map mo) (.int .i64 k) false).run Tryz.prog w=.ok (.int .i64 (g k)) w:=by
 cases mo with
 |none=>rw[run_lookup_nil (z:=.int .i64 0) Tryz.underlying89 Tryz.underlying3 (fun w=>Tryz.zeroValue3 w),show g k=0 from h k];rfl
 |some b=>
  obtain⟨es,c,h1,h2,h3⟩:=h;rw[run_lookup_int (z:=.int .i64 0) Tryz.underlying89 Tryz.underlying3 (fun w=>Tryz.zeroValue3 w) h1 h2,h3]
def cntC (mo:Option Nat) (g:Int→Nat):Comp:=
 ⟨fun w f=>CntAt w mo g∧f=mo.toList,fun h hm hT=>⟨h.1.mod hm fun x hx=>hT x (by rw[h.2,hx];simp),h.2⟩,fun h x hx=>by rw[h.2,Option.mem_toList]at hx;exact h.1.lt x hx⟩
theorem Scene.cnt {F:List Nat} {W w:World} {cs:List Comp} (i:Nat) {mo:Option Nat} {g:Int→Nat} (h:Scene F W cs w) (hi:cs[i]? =some (cntC mo g)):CntAt w mo g:=
 let ⟨_,h1,_⟩:=h.part i hi;h1.1
def bump (g:Int→Nat) (p:Int):Int→Nat:=fun k=>if k=p then g k+1 else g k
def evCells (e:Ev):List Value:=[.int .i64 e.p,.int .i64 e.op,.int .u64 e.h,.int .u64 e.arg,.int .i64 e.err]
def digEv (evs:List Ev):Int:=evs.foldl (fun d e=>chainN d (encEv e)) 14695981039346656037
theorem digEv_snoc (evs:List Ev) (e:Ev):digEv (evs++[e])=chainN (digEv evs) (encEv e):=by simp[digEv]
def logP (lb:Nat) (cap:Int) (ev bv:Value) (last:Int) (rm mm:Option Nat) (nb:Nat) (xs:List Value) (evs:List Ev) (g m:Int→Nat):List Comp:=
 [blockC lb (.cells #[.int .i64 cap,ev,bv,.int .u64 last,.map rm,.map mm] 108 (0,0)),rowC ev evs.length 76 5 (flat evCells evs),rowC bv nb 5 1 xs,cntC rm g,cntC mm m]
def LogOk (evs:List Ev) (last:Int) (nb:Nat):Prop:=(0≤last∧last≤18446744073709551615)∧nb≤200*evs.length∧(evs≠ []→last=digEv evs)
def logOn (lb:Nat) (cap:Int) (evs:List Ev) (miss:List Int) (w:World) (f:List Nat):Prop:=∃ev bv last rm mm nb xs,LogOk evs last nb∧Hold (logP lb cap ev bv last rm mm nb xs evs (recs evs) (missN miss)) w f
def logC (lb:Nat) (cap:Int) (evs:List Ev) (miss:List Int):Comp:=
 ⟨logOn lb cap evs miss,fun⟨a,b,c,d,e,n,xs,h1,h2⟩ hm hT=>⟨a,b,c,d,e,n,xs,h1,h2.keep hm hT⟩,fun⟨_,_,_,_,_,_,_,_,h⟩=>h.lt⟩
theorem digL_range (bs:List Int):∀d:Int,0≤d→d≤18446744073709551615→0≤digL d bs∧digL d bs≤18446744073709551615:=by
 induction bs with
 |nil=>intro d h0 h1;exact⟨h0,h1⟩
 |cons b l ih=>
  intro d _ _;have:digL d (b::l)=digL (digB d b) l:=rfl;rw[this];refine ih _ ?_ ?_<;> ·unfold digB;simp[IntKind.wrap,IntKind.bits,IntKind.signed];omega
theorem lognew_ok (cap:Int) (h0:0≤cap) (h1:cap≤65536) (w:World):Calls Tryz.prog 18 #[.int .i64 cap] w fun e w'=>e=.returned (.tuple #[.pointer (some ⟨w.heap.size,0,none⟩),.int .i64 0])∧w'=w.alloc (.cells #[.int .i64 cap,.slice none 0 0,.slice none 0 0,.int .u64 0,.map none,.map none] 108):=by
 have z1:decide (cap<0)=false:=by rw[decide_eq_false_iff_not];omega
 have z2:decide (cap>65536)=false:=by rw[decide_eq_false_iff_not];omega
 go_enter Tryz.func18,Tryz.ntmps18;go_wp2;go_ret2;exact⟨rfl,rfl⟩
theorem log_fresh (cap:Int) {w:World} {b:Nat} (h:w.heap[b]? =some (.cells #[.int .i64 cap,.slice none 0 0,.slice none 0 0,.int .u64 0,.map none,.map none] 108 (0,0))):(logC b cap [] []).on w ([b]++([]++([]++([]++([]++[]))))):=by
 refine⟨_,_,0,none,none,0,[],⟨by omega,by simp,by simp⟩,[b],_,⟨h,rfl⟩,⟨[],_,⟨World.ownsRow_nil _ _ _ _,rfl⟩,⟨[],_,⟨World.ownsRow_nil _ _ _ _,rfl⟩,⟨[],_,⟨fun k=>rfl,rfl⟩,⟨[],[],⟨fun k=>rfl,rfl⟩,rfl,by simp,rfl⟩,by simp,rfl⟩,by simp,rfl⟩,by simp,rfl⟩,by simp,rfl⟩
theorem digest_at {lb:Nat} {cap last:Int} {ev bv mr mm:Value} {evs:List Ev} {w:World} (hb:w.heap[lb]? =some (.cells #[.int .i64 cap,ev,bv,.int .u64 last,mr,mm] 108 (0,0))) (hr:w.ownsRow 0 76 5 ev evs.length (flat evCells evs)) (hd:evs≠ []→last=digEv evs):
  Calls Tryz.prog 41 #[.pointer (some ⟨lb,0,none⟩)] w fun e w'=>e=.returned (.int .u64 (digEv evs))∧w'=w:=by
 have hcb:=cells_of hb;have hln:=fun ty w'=>row_len (ty:=ty) Tryz.underlying106 hr w'
 have hlen:Calls Tryz.prog 73 #[.pointer (some ⟨lb,0,none⟩)] w fun e w'=>e=.returned (.int .i64 evs.length)∧w'=w:=by
  obtain⟨ea,el,ec,rfl⟩:=rowForm hr;generalize evs.length=n at*;clear hr hd hb;go_enter Tryz.func73,Tryz.ntmps73;go_wp2;go_ret;exact⟨rfl,rfl⟩
 have hsum:=Lib.hid fun w=>digsum_ok (v:=.slice none 0 0) (bs:=[]) (w:=w) (.inl ⟨rfl,rfl⟩)
 have hlenH:=Lib.hid hlen
 cases evs with
 |nil=>
  have hde:digEv []=14695981039346656037:=rfl;rw[hde];clear hr hb hd hlen hln hde;go_enter Tryz.func41,Tryz.ntmps41;go_wp2_with fail;refine hlenH.out.mono ?_;rintro e w1 ⟨rfl,rfl⟩;go_wp2_with fail;refine(hsum.out _).mono ?_;rintro e w2 ⟨rfl,rfl⟩;go_wp2_with fail;go_ret;exact⟨rfl,rfl⟩
 |cons e0 l=>
  have hd:=hd (by simp);subst hd;have hz:(((e0::l).length:Int)==0)=false:=by simp;omega
  generalize(e0::l).length=n at*;generalize digEv (e0::l)=d at*;clear hr hb hlen hln;go_enter Tryz.func41,Tryz.ntmps41;go_wp2_with fail;refine hlenH.out.mono ?_;rintro e w1 ⟨rfl,rfl⟩;go_wp2_with fail;go_ret;exact⟨rfl,rfl⟩
section
variable {lb:Nat} {cap:Int} {evs:List Ev} {miss:List Int} {w:World} {f:List Nat} (h:(logC lb cap evs miss).on w f)
include h
theorem records_ok (p:Int):Calls Tryz.prog 71 #[.pointer (some ⟨lb,0,none⟩),.int .i64 p] w fun e w'=>e=.returned (.int .i64 (recs evs p))∧w'=w:=by
 obtain⟨ev,bv,last,rm,mm,nb,xs, -,hH⟩:=h;have hS:=Scene.start hH;have hcb:=cells_of (hS.block 0 rfl);have hlk:=(Scene.cnt 3 hS rfl).look p;generalize recs evs p=r at*;clear hH hS;go_enter Tryz.func71,Tryz.ntmps71;go_wp2;go_ret;exact⟨rfl,rfl⟩
theorem room_ok (p:Int):Calls Tryz.prog 38 #[.pointer (some ⟨lb,0,none⟩),.int .i64 p] w fun e w'=>e=.returned (.bool (decide ((recs evs p:Int)<cap)))∧Mod [] w w':=by
 have hr:=Lib.hid fun w' (hm:Mod [] w w')=>records_ok (Comp.keep _ h hm (by simp)) p
 obtain⟨ev,bv,last,rm,mm,nb,xs, -,hH⟩:=h;have hS:=Scene.start hH;have hb:=hS.block 0 rfl;have k1:=GW.cells (S:=[]) hb (by simp);generalize recs evs p=r at*;clear hH hS hb;go_enter Tryz.func38,Tryz.ntmps38;go_wp2_with fail;refine wp_region_pure (by kernel_rfl) (by kernel_rfl) ?_;refine stage_quiet 5 (by kernel_rfl) ?_;simp only[tA,tB,tC,tD];(repeat go_big_quiet_step (fail));refine wpQuiet_nil ?_;refine stage_pure 71 _ (.int .i64 r) rfl Tryz.call71 rfl rfl (fun w' hm=>(hr.out w' hm).mono fun e w'' ⟨he,hw⟩=>⟨he,hw▸Mod.refl [] _⟩) ?_;simp only[Act.put,sA,sB,sC];refine stage_quiet 7 (by kernel_rfl) ?_;simp only[tA,tB,tC,tD];(repeat go_big_quiet_step (fail));refine wpQuiet_nil ?_;refine stage_nil fun w2 hm2=> ?_
 clear k1;go_wp2_with fail;go_ret;exact⟨rfl,hm2⟩
end
end Go.Proofs.YtgfdeiijblakfaaGreat
namespace Go.Proofs.YtgfdeiijblakfaaGreat
open Go Go.RowKit Go.Stg
theorem CntAt.put {w:World} {bm:Nat} {es:Array MapEntry} {c c':Nat} {g:Int→Nat} {p:Int} {v:Value} (hv:v=.int .i64 ((g p:Int)+1)) (hb:w.heap[bm]? =some (.map (mput p v c es).1 c')) (hk:IKeys es.toList) (hg:∀k,(mget k es.toList).getD (.int .i64 0)=.int .i64 (g k)):
  CntAt w (some bm) (bump g p):=by
 subst hv;obtain⟨h1,h2⟩:=mput_spec p (.int .i64 ((g p:Int)+1)) c es hk;refine⟨_,c',hb,h1,fun k=> ?_⟩;rw[h2];unfold bump;by_cases h:k=p
 ·subst h;simp
 ·rw[if_neg h,if_neg h];exact hg k
def GrowPost (lb o:Nat) (cs:Array Value) (T:TypeId) (mo:Option Nat) (g:Int→Nat) (p:Int) (w:World) (e:Ending) (w':World):Prop:=
 ∃mo',e=.returned (.tuple #[])∧Site o w' lb cs T (.map mo')∧CntAt w' mo' (bump g p)∧Mod (lb::mo.toList) w w'∧∀x,mo'=some x→mo=some x∨w.heap.size≤x
theorem grow_ok {lb o:Nat} {cs:Array Value} {T:TypeId} {mo:Option Nat} {g:Int→Nat} {w:World} (h:Site o w lb cs T (.map mo)) (hc:CntAt w mo g) (hne:mo≠some lb) (p:Int) (hg:g p≤1000000):
  Calls Tryz.prog 39 #[.pointer (some ⟨lb,o,none⟩),.int .i64 p] w (GrowPost lb o cs T mo g p w):=by
 have hnil:∀(w:World) (r:Option Nat),(binOp .eql 89 (.map r) (.map none)).run Tryz.prog w=.ok (.bool r.isNone) w:=fun w r=>run_eql_map_nil w _ _ _ r Tryz.underlying89
 have hcell:=h.cell;have hfr:=h.frozen;have hH:=Lib.hid h
 cases mo with
 |none=>
  have hz:g p=0:=hc p;have hcH:=Lib.hid hc;have hlt:=h.lt;have hzH:=Lib.hid hz;clear h hc hz;have hmm:=fun w=>run_makeMap (P:=Tryz.prog) 89 w
  have hes:IKeys (#[]:Array MapEntry).toList:=trivial;have hb1:((w.setCell ⟨lb,o,none⟩ (.map (some w.heap.size))).alloc (.map #[] 0)).heap[w.heap.size]? =some (.map #[] 0):=by
   have:=at_alloc (w.setCell ⟨lb,o,none⟩ (.map (some w.heap.size))) (.map #[] 0);simpa[World.setCell]using this
  have hlk1:(Instr.lookup 89 (.map (some w.heap.size)) (.int .i64 p) false).run Tryz.prog ((w.setCell ⟨lb,o,none⟩ (.map (some w.heap.size))).alloc (.map #[] 0))=.ok (.int .i64 0) ((w.setCell ⟨lb,o,none⟩ (.map (some w.heap.size))).alloc (.map #[] 0)):=run_lookup_int (P:=Tryz.prog) (z:=.int .i64 0) Tryz.underlying89 Tryz.underlying3 (fun w=>Tryz.zeroValue3 w) hb1 hes p;have hup1:=run_update_int (P:=Tryz.prog) Tryz.underlying89 Tryz.underlying3 hb1 hes p (.int .i64 1);have hb1H:=Lib.hid hb1;have hs1:=Lib.hid ((hH.out.put (.map (some w.heap.size))).mod ((Mod.refl [] _).alloc (.map #[] 0)) (by simp));have hm1:=Lib.hid (((Mod.refl (lb::[]) w).setCell (p:=⟨lb,o,none⟩) (.inl (by simp)) (.map (some w.heap.size))).alloc (.map #[] 0));have hlb:lb≠w.heap.size:=by omega
  have hesH:=Lib.hid hes;clear hb1 hes;go_enter Tryz.func39,Tryz.ntmps39;go_wp2;go_end0;have hg0:(.int .i64 1:Value)=.int .i64 ((g p:Int)+1):=by rw[hzH.out];rfl
  exact⟨some w.heap.size,rfl,hs1.out.mod ((Mod.refl [w.heap.size] _).setMap (.inl (by simp)) _) (by simp;exact hlb),CntAt.put hg0 (at_setMap hb1H.out) hesH.out (fun k=>by rw[show g k=0 from hcH.out k];rfl),hm1.out.setMap (.inr (Nat.le_refl _)) _,fun x hx=>.inr (by have:=Option.some.inj hx;omega)⟩
 |some bm=>
  obtain⟨es,c,h1,h2,h3⟩:=hc;have hlk:=run_lookup_int (P:=Tryz.prog) (z:=.int .i64 0) Tryz.underlying89 Tryz.underlying3 (fun w=>Tryz.zeroValue3 w) h1 h2 p;rw[h3]at hlk;have hup:=run_update_int (P:=Tryz.prog) Tryz.underlying89 Tryz.underlying3 h1 h2 p (.int .i64 ((g p:Int)+1));have h1H:=Lib.hid h1;have h2H:=Lib.hid h2;have h3H:=Lib.hid h3;have hn:bm≠lb:=fun e=>hne (by rw[e])
  clear h h1 h2 h3;go_enter Tryz.func39,Tryz.ntmps39;go_wp2;go_end0;exact⟨some bm,rfl,hH.out.mod ((Mod.refl [bm] w).setMap (.inl (by simp)) _) (by simp;exact fun e=>hn e.symm),CntAt.put rfl (at_setMap h1H.out) h2H.out h3H.out,(Mod.refl _ w).setMap (.inl (by simp)) _,fun x hx=>.inl hx⟩
theorem bump_miss (miss:List Int) (p:Int):bump (missN miss) p=missN (miss++[p]):=by
 funext k;rw[missN_snoc];unfold bump;by_cases h:k=p
 ·rw[if_pos h,if_pos h.symm]
 ·rw[if_neg h,if_neg (Ne.symm h)];rfl
theorem bump_recs (evs:List Ev) (e:Ev):(if e.counts=true then bump (recs evs) e.p else recs evs)=recs (evs++[e]):=by
 funext k;rw[recs_snoc];unfold bump;by_cases hc:e.counts=true
 ·rw[if_pos hc];by_cases h:k=e.p
  ·rw[if_pos h,if_pos ⟨h.symm,hc⟩]
  ·rw[if_neg h,if_neg fun a=>h a.1.symm];rfl
 ·rw[if_neg hc,if_neg fun a=>hc a.2];rfl
theorem missN_len (miss:List Int) (p:Int):missN miss p≤miss.length:=List.length_filter_le _ _
theorem recs_len (evs:List Ev) (p:Int):recs evs p≤evs.length:=List.length_filter_le _ _
theorem grow_part {F:List Nat} {W w:World} {cs:List Comp} {lb o:Nat} {xs:Array Value} {T:TypeId} {mo:Option Nat} {g:Int→Nat} (h:Scene F W (blockC lb (.cells xs T (0,0))::cntC mo g::cs) w) (ho:xs[o]? =some (.map mo)) (p:Int) (hg:g p≤1000000):
  Calls Tryz.prog 39 #[.pointer (some ⟨lb,o,none⟩),.int .i64 p] w fun e w'=>e=.returned (.tuple #[])∧∃mo',Scene F W (blockC lb (.cells (xs.setIfInBounds o (.map mo')) T (0,0))::cntC mo' (bump g p)::cs) w':=by
 obtain⟨f1,g1,⟨hb,e1⟩,⟨hc,e2⟩,hd,hk⟩:=h.part2;subst e1 e2;obtain⟨hlt,hv⟩:=Array.getElem?_eq_some_iff.1 ho;have hs:=Site.of hb hlt;rw[hv]at hs;have hne:mo≠some lb:=fun e=>hd lb (by simp) (by simp[e])
 refine(grow_ok hs hc hne p hg).mono ?_;rintro e w' ⟨mo',he,k1,k2,k3,k4⟩;refine⟨he,mo',hk w' [lb] mo'.toList _ _ ⟨k1.blk,rfl⟩ ⟨k2,rfl⟩ (fun x hx hxm=> ?_) (k3.mono fun x hx=>by simpa using hx) (fun x hx=> ?_)⟩
 ·rw[List.mem_singleton.1 hx,Option.mem_toList]at hxm;rcases k4 lb hxm with h|h
  ·exact hne h
  ·have:=lt_of hb;omega
 ·rcases hx with h|h
  ·exact .inl (.inl h)
  ·rw[Option.mem_toList]at h;exact(k4 x h).imp (fun e=>.inr (by simp[e])) id
theorem logmiss_ok {lb:Nat} {cap:Int} {evs:List Ev} {miss:List Int} {w:World} {f:List Nat} (h:(logC lb cap evs miss).on w f) (hl:miss.length≤1000000) (p:Int):
  Calls Tryz.prog 107 #[.pointer (some ⟨lb,0,none⟩),.int .i64 p] w (Takes (logC lb cap evs (miss++[p])) (.tuple #[]) w f):=by
 obtain⟨ev,bv,last,rm,mm,nb,xs,hok,hH⟩:=h;have hS:=((Scene.start hH).out 4 rfl).out 1 rfl;have hg:=Lib.hid (grow_part (o:=5) hS rfl p (Nat.le_trans (missN_len miss p) hl));have hokH:=Lib.hid hok;clear hH hS hok;go_enter Tryz.func107,Tryz.ntmps107;go_wp2_with fail;refine hg.out.mono ?_;rintro e w1 ⟨rfl,mo',h1⟩;have h2:=Scene.back (cs:=[cntC mo' (bump (missN miss) p),blockC lb (.cells #[] 108 (0,0)),rowC ev evs.length 76 5 (flat evCells evs),rowC bv nb 5 1 xs,cntC rm (recs evs)]) 1 (by simp) h1;have h3:=Scene.back (cs:=[blockC lb (.cells #[.int .i64 cap,ev,bv,.int .u64 last,.map rm,.map mo'] 108 (0,0)),rowC ev evs.length 76 5 (flat evCells evs),rowC bv nb 5 1 xs,cntC rm (recs evs),cntC mm (missN miss)]) 4 (by simp) h2;rw[bump_miss]at h3;have h3H:=Lib.hid h3;clear h1 h2 h3;go_wp2_with fail;go_end0;obtain⟨f',k1,k2,k3⟩:=h3H.out.done;exact⟨f',rfl,⟨ev,bv,last,rm,mo',nb,xs,hokH.out,k1⟩,k2,k3⟩
end Go.Proofs.YtgfdeiijblakfaaGreat
