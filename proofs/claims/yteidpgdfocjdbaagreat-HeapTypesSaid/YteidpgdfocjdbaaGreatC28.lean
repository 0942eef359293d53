/- Joined contracts. No conditions. -/
import Derived.Test.YteidpgdfocjdbaaGreatCS
import Derived.Test.YteidpgdfocjdbaaGreatC26
import Derived.Test.YteidpgdfocjdbaaGreatC27
set_option maxHeartbeats 1000000
set_option maxRecDepth 20000
namespace Go.Proofs.YteidpgdfocjdbaaGreat
open Go Go.RowKit Go.Stg
theorem CntAt.put {w:World} {bm:Nat} {es:Array MapEntry} {c c':Nat} {g:Int→Nat} {p:Int} {v:Value} (hv:v=.int .i64 ((g p:Int)+1)) (hb:w.heap[bm]? =some (.map (mput p v c es).1 c')) (hk:IKeys es.toList) (hg:∀k,(mget k es.toList).getD (.int .i64 0)=.int .i64 (g k)):
  CntAt w (some bm) (bump g p):=by
 subst hv;obtain⟨h1,h2⟩:=mput_spec p (.int .i64 ((g p:Int)+1)) c es hk;refine⟨_,c',hb,h1,fun k=> ?_⟩;rw[h2];unfold bump;by_cases h:k=p
 ·subst h;simp
 ·rw[if_neg h,if_neg h];exact hg k
def GrowPost (lb o:Nat) (cs:Array Value) (T:TypeId) (mo:Option Nat) (g:Int→Nat) (p:Int) (w:World) (e:Ending) (w':World):Prop:=
 ∃mo',e=.returned (.tuple #[])∧Site o w' lb cs T (.map mo')∧CntAt w' mo' (bump g p)∧Mod (lb::mo.toList) w w'∧∀x,mo'=some x→mo=some x∨w.heap.size≤x
theorem grow_ok {lb o:Nat} {cs:Array Value} {T:TypeId} {mo:Option Nat} {g:Int→Nat} {w:World} (h:Site o w lb cs T (.map mo)) (hc:CntAt w mo g) (hne:mo≠some lb) (p:Int) (hg:g p≤1000000):
  Calls Tryz.prog 71 #[.pointer (some ⟨lb,o,none⟩),.int .i64 p] w (GrowPost lb o cs T mo g p w):=by
 have hnil:∀(w:World) (r:Option Nat),(binOp .eql 137 (.map r) (.map none)).run Tryz.prog w=.ok (.bool r.isNone) w:=fun w r=>run_eql_map_nil w _ _ _ r Tryz.underlying137
 have hcell:=h.cell;have hfr:=h.frozen;have hH:=Lib.hid h
 cases mo with
 |none=>
  have hz:g p=0:=hc p;have hcH:=Lib.hid hc;have hlt:=h.lt;have hzH:=Lib.hid hz;clear h hc hz;have hmm:=fun w=>run_makeMap (P:=Tryz.prog) 137 w
  have hes:IKeys (#[]:Array MapEntry).toList:=trivial;have hb1:((w.setCell ⟨lb,o,none⟩ (.map (some w.heap.size))).alloc (.map #[] 0)).heap[w.heap.size]? =some (.map #[] 0):=by
   have:=at_alloc (w.setCell ⟨lb,o,none⟩ (.map (some w.heap.size))) (.map #[] 0);simpa[World.setCell]using this
  have hlk1:(Instr.lookup 137 (.map (some w.heap.size)) (.int .i64 p) false).run Tryz.prog ((w.setCell ⟨lb,o,none⟩ (.map (some w.heap.size))).alloc (.map #[] 0))=.ok (.int .i64 0) ((w.setCell ⟨lb,o,none⟩ (.map (some w.heap.size))).alloc (.map #[] 0)):=run_lookup_int (P:=Tryz.prog) (z:=.int .i64 0) Tryz.underlying137 Tryz.underlying3 (fun w=>Tryz.zeroValue3 w) hb1 hes p;have hup1:=run_update_int (P:=Tryz.prog) Tryz.underlying137 Tryz.underlying3 hb1 hes p (.int .i64 1);have hb1H:=Lib.hid hb1;have hs1:=Lib.hid ((hH.out.put (.map (some w.heap.size))).mod ((Mod.refl [] _).alloc (.map #[] 0)) (by simp));have hm1:=Lib.hid (((Mod.refl (lb::[]) w).setCell (p:=⟨lb,o,none⟩) (.inl (by simp)) (.map (some w.heap.size))).alloc (.map #[] 0));have hlb:lb≠w.heap.size:=by omega
  have hesH:=Lib.hid hes;clear hb1 hes;go_enter Tryz.func71,Tryz.ntmps71;go_wp2;go_end0;have hg0:(.int .i64 1:Value)=.int .i64 ((g p:Int)+1):=by rw[hzH.out];rfl
  exact⟨some w.heap.size,rfl,hs1.out.mod ((Mod.refl [w.heap.size] _).setMap (.inl (by simp)) _) (by simp;exact hlb),CntAt.put hg0 (at_setMap hb1H.out) hesH.out (fun k=>by rw[show g k=0 from hcH.out k];rfl),hm1.out.setMap (.inr (Nat.le_refl _)) _,fun x hx=>.inr (by have:=Option.some.inj hx;omega)⟩
 |some bm=>
  obtain⟨es,c,h1,h2,h3⟩:=hc;have hlk:=run_lookup_int (P:=Tryz.prog) (z:=.int .i64 0) Tryz.underlying137 Tryz.underlying3 (fun w=>Tryz.zeroValue3 w) h1 h2 p;rw[h3]at hlk;have hup:=run_update_int (P:=Tryz.prog) Tryz.underlying137 Tryz.underlying3 h1 h2 p (.int .i64 ((g p:Int)+1));have h1H:=Lib.hid h1;have h2H:=Lib.hid h2;have h3H:=Lib.hid h3;have hn:bm≠lb:=fun e=>hne (by rw[e])
  clear h h1 h2 h3;go_enter Tryz.func71,Tryz.ntmps71;go_wp2;go_end0;exact⟨some bm,rfl,hH.out.mod ((Mod.refl [bm] w).setMap (.inl (by simp)) _) (by simp;exact fun e=>hn e.symm),CntAt.put rfl (at_setMap h1H.out) h2H.out h3H.out,(Mod.refl _ w).setMap (.inl (by simp)) _,fun x hx=>.inl hx⟩
theorem bump_miss (miss:List Int) (p:Int):bump (missN miss) p=missN (miss++[p]):=by
 funext k;rw[missN_snoc];unfold bump;by_cases h:k=p
 ·rw[if_pos h,if_pos h.symm]
 ·rw[if_neg h,if_neg (Ne.symm h)];rfl
theorem bump_recs (evs:List Ev) (e:Ev):(if e.counts=true then bump (recs evs) e.p else recs evs)=recs (evs++[e]):=by
 funext k;rw[recs_snoc];unfold bump;by_cases hc:e.counts=true
 ·rw[if_pos hc];by_cases h:k=e.p
  ·rw[if_pos h,if_pos ⟨h.symm,hc⟩]
  ·rw[if_neg h,if_neg fun a=>h a.1.symm];rfl
 ·rw[if_neg hc,if_neg fun a=>hc a.2];rfl
theorem missN_len (miss:List Int) (p:Int):missN miss p≤miss.length:=List.length_filter_le _ _
theorem recs_len (evs:List Ev) (p:Int):recs evs p≤evs.length:=List.length_filter_le _ _
theorem grow_part {F:List Nat} {W w:World} {cs:List Comp} {lb o:Nat} {xs:Array Value} {T:TypeId} {mo:Option Nat} {g:Int→Nat} (h:Scene F W (blockC lb (.cells xs T (0,0))::cntC mo g::cs) w) (ho:xs[o]? =some (.map mo)) (p:Int) (hg:g p≤1000000):
  Calls Tryz.prog 71 #[.pointer (some ⟨lb,o,none⟩),.int .i64 p] w fun e w'=>e=.returned (.tuple #[])∧∃mo',Scene F W (blockC lb (.cells (xs.setIfInBounds o (.map mo')) T (0,0))::cntC mo' (bump g p)::cs) w':=by
 obtain⟨f1,g1,⟨hb,e1⟩,⟨hc,e2⟩,hd,hk⟩:=h.part2;subst e1 e2;obtain⟨hlt,hv⟩:=Array.getElem?_eq_some_iff.1 ho;have hs:=Site.of hb hlt;rw[hv]at hs;have hne:mo≠some lb:=fun e=>hd lb (by simp) (by simp[e])
 refine(grow_ok hs hc hne p hg).mono ?_;rintro e w' ⟨mo',he,k1,k2,k3,k4⟩;refine⟨he,mo',hk w' [lb] mo'.toList _ _ ⟨k1.blk,rfl⟩ ⟨k2,rfl⟩ (fun x hx hxm=> ?_) (k3.mono fun x hx=>by simpa using hx) (fun x hx=> ?_)⟩
 ·rw[List.mem_singleton.1 hx,Option.mem_toList]at hxm;rcases k4 lb hxm with h|h
  ·exact hne h
  ·have:=lt_of hb;omega
 ·rcases hx with h|h
  ·exact .inl (.inl h)
  ·rw[Option.mem_toList]at h;exact(k4 x h).imp (fun e=>.inr (by simp[e])) id
theorem logmiss_ok {lb:Nat} {cap:Int} {evs:List Ev} {miss:List Int} {w:World} {f:List Nat} (h:(logC lb cap evs miss).on w f) (hl:miss.length≤1000000) (p:Int):
  Calls Tryz.prog 77 #[.pointer (some ⟨lb,0,none⟩),.int .i64 p] w (Takes (logC lb cap evs (miss++[p])) (.tuple #[]) w f):=by
 obtain⟨ev,bv,last,rm,mm,nb,xs,hok,hH⟩:=h;have hS:=((Scene.start hH).out 4 rfl).out 1 rfl;have hg:=Lib.hid (grow_part (o:=5) hS rfl p (Nat.le_trans (missN_len miss p) hl));have hokH:=Lib.hid hok;clear hH hS hok;go_enter Tryz.func77,Tryz.ntmps77;go_wp2_with fail;refine hg.out.mono ?_;rintro e w1 ⟨rfl,mo',h1⟩;have h2:=Scene.back (cs:=[cntC mo' (bump (missN miss) p),blockC lb (.cells #[] 156 (0,0)),rowC ev evs.length 99 5 (flat evCells evs),rowC bv nb 5 1 xs,cntC rm (recs evs)]) 1 (by simp) h1;have h3:=Scene.back (cs:=[blockC lb (.cells #[.int .i64 cap,ev,bv,.int .u64 last,.map rm,.map mo'] 156 (0,0)),rowC ev evs.length 99 5 (flat evCells evs),rowC bv nb 5 1 xs,cntC rm (recs evs),cntC mm (missN miss)]) 4 (by simp) h2;rw[bump_miss]at h3;have h3H:=Lib.hid h3;clear h1 h2 h3;go_wp2_with fail;go_end0;obtain⟨f',k1,k2,k3⟩:=h3H.out.done;exact⟨f',rfl,⟨ev,bv,last,rm,mo',nb,xs,hokH.out,k1⟩,k2,k3⟩
end Go.Proofs.YteidpgdfocjdbaaGreat
