/- Joined contracts. No conditions. -/
import Derived.Test.YtdehaommhbjakaaGreatC26
import Derived.Test.YtdehaommhbjakaaGreatC28
set_option maxHeartbeats 1000000
set_option maxRecDepth 20000
namespace Go.Proofs.YtdehaommhbjakaaGreat
open RowKit Stg
open Ty (aw fF ax eL iR fD fW)
def qw (bm:Nat) (used:List Ext):ai:=
 ⟨fun w f=>fI w bm used∧f=[bm],fun h hm hT=>⟨h.1.mod hm (hT bm (by rw[h.2];simp)),h.2⟩,fun h x hx=>by
  rw[h.2,List.mem_singleton]at hx;subst hx;obtain⟨_,_,h1,_⟩:=h.1;exact aL h1⟩
def uf (ab bm:Nat) (fv:Value) (fr used:List Ext):List ai:=
 [aj ab (.cells #[fv,.map (some bm)] 228 (0,0)),aT fv fr.length 104 2 (ax fr),qw bm used]
def Hk (ab:Nat) (fr used:List Ext) (w:World) (f:List Nat):Prop:=∃bm fv,aU (uf ab bm fv fr used) w f
def db (ab:Nat) (fr used:List Ext):ai:=⟨Hk ab fr used,fun⟨a,b,h⟩ hm hT=>⟨a,b,h.bj hm hT⟩,fun⟨_,_,h⟩=>h.lt⟩
theorem fI.congr {w:World} {bm:Nat} {used used':List Ext} (h:fI w bm used) (he:∀off,cK used off=cK used' off):fI w bm used':=
 let ⟨es,c,h1,h2,h3⟩:=h;⟨es,c,h1,h2,fun off=>by rw[h3,he]⟩
theorem aU.zn {c c':ai} {cs:List ai} {w:World} {f:List Nat} (i:Nat) (h:aU cs w f) (hi:cs[i]? =some c) (hc:∀g,c.on w g→c'.on w g):aU (cs.set i c') w f:=by
 induction cs generalizing f i with
 |nil=>simp at hi
 |cons c0 cs ih=>
  obtain⟨g,k,h1,h2,h3,e⟩:=h
  cases i with
  |zero=>
   obtain rfl:c0=c:=by simpa using hi
   exact⟨g,k,hc g h1,h2,h3,e⟩
  |succ i=>exact⟨g,k,h1,ih i h2 (by simpa using hi),h3,e⟩
theorem db.congr {ab:Nat} {fr used used':List Ext} {w:World} {f:List Nat} (h:(db ab fr used).on w f) (he:∀off,cK used off=cK used' off):(db ab fr used').on w f:=
 let ⟨bm,fv,hH⟩:=h;⟨bm,fv,aU.zn (cs:=uf ab bm fv fr used) 2 hH rfl fun _ hg=>⟨hg.1.congr he,hg.2⟩⟩
theorem uG {F:List Nat} {W w:World} {cs:List ai} (i:Nat) {bm:Nat} {used:List Ext} (h:af F W cs w) (hi:cs[i]? =some (qw bm used)):fI w bm used:=
 let ⟨_,h1,_⟩:=h.part i hi;h1.1
theorem E4 {ab:Nat} {fr used:List Ext} {w:World} {f:List Nat} (h:(db ab fr used).on w f) (o l:Int):
  Calls Tryz.prog 144 #[.pointer (some ⟨ab,0,none⟩),.agg #[.int .i64 o,.int .i64 l]] w fun e w'=>e=.returned (.bool (hasB used (o,l)))∧Mod [] w w':=by
 obtain⟨bm,fv,hH⟩:=h;have hS:=af.start hH;exact zb (hS.block 0 rfl) (uG 2 hS rfl) o l
theorem EJ {F:List Nat} {W w:World} {cs:List ai} (hS:af F W cs w) (size:Int) (h0:0≤size) (h1:size≤1048576):
  Calls Tryz.prog 66 #[.int .i64 size] w fun e w'=>∃ab,e=.returned (.tuple #[.pointer (some ⟨ab,0,none⟩),.int .i64 0])∧af F W (db ab (dc 0 size) []::cs) w':=by
 have hc:=zh (Dp size h0 h1 w);have hSH:=zh hS;have hmm:=fun w=>run_makeMap (P:=Tryz.prog) 140 w
 clear hS;go_enter Tryz.func66,Tryz.ntmps66;go_wp2_with fail;refine hc.out.mono ?_;rintro e w1 ⟨u,rfl,hr,hm⟩;obtain⟨ua,ul,uc,rfl⟩:=cx hr;have hrH:=zh hr;have hmH:=zh hm;clear hr hm hc;go_wp2_with fail;go_ret2;refine⟨_,rfl,?_⟩;have br:=hmH.out.size;have hm2:=(hmH.out.alloc (.map #[] 0)).alloc (.cells #[.slice ua ul uc,.map (some w1.heap.size)] 228);have hb1:((w1.alloc (.map #[] 0)).alloc (.cells #[.slice ua ul uc,.map (some w1.heap.size)] 228)).heap[w1.heap.size]? =some (.map #[] 0):=aI (an w1 _);have hb2:((w1.alloc (.map #[] 0)).alloc (.cells #[.slice ua ul uc,.map (some w1.heap.size)] 228)).heap[w1.heap.size+1]? =some (.cells #[.slice ua ul uc,.map (some w1.heap.size)] 228):=by
  have:=an (w1.alloc (.map #[] 0)) (.cells #[.slice ua ul uc,.map (some w1.heap.size)] 228);simpa using this
 have hr2:=aG hrH.out (((Mod.refl [] w1).alloc (.map #[] 0)).alloc (.cells #[.slice ua ul uc,.map (some w1.heap.size)] 228)) (by simp);have hlt:=hrH.out.lt;refine hSH.out.add (f:=[w1.heap.size+1]++((Value.slice ua ul uc).ownBlock.toList++([w1.heap.size]++[]))) hm2 ⟨w1.heap.size,.slice ua ul uc,[w1.heap.size+1],_,⟨hb2,rfl⟩,⟨_,_,⟨aE hr2 (Nat.zero_le _),rfl⟩,⟨[w1.heap.size],[],⟨⟨#[],0,hb1,trivial,fun off=>rfl⟩,rfl⟩,rfl,by simp,rfl⟩,fun x hx hy=> ?_,rfl⟩,fun x hx hy=> ?_,rfl⟩ (fun x hx=> ?_)
 ·rw[Option.mem_toList]at hx;have:=hlt x hx;simp at hy;omega
 ·rw[List.mem_singleton]at hx;subst hx;simp at hy;have:=hlt _ hy;omega
 ·simp at hx;rcases hx with rfl|hx|rfl
  ·omega
  ·exact(hlt x hx).1
  ·exact br
theorem cm.put {w:World} {bm:Nat} {es:Array MapEntry} {c c':Nat} {g:Int→Nat} {p:Int} {v:Value} (hv:v=.int .i64 ((g p:Int)+1)) (hb:w.heap[bm]? =some (.map (c9 p v c es).1 c')) (hk:cL es.toList) (hg:∀k,(bU k es.toList).getD (.int .i64 0)=.int .i64 (g k)):
  cm w (some bm) (bump g p):=by
 subst hv;obtain⟨h1,h2⟩:=kE p (.int .i64 ((g p:Int)+1)) c es hk;refine⟨_,c',hb,h1,fun k=> ?_⟩;rw[h2];unfold bump;by_cases h:k=p
 ·subst h;simp
 ·rw[if_neg h,if_neg h];exact hg k
def EK (lb o:Nat) (cs:Array Value) (T:TypeId) (mo:Option Nat) (g:Int→Nat) (p:Int) (w:World) (e:Ending) (w':World):Prop:=
 ∃mo',e=.returned (.tuple #[])∧Site o w' lb cs T (.map mo')∧cm w' mo' (bump g p)∧Mod (lb::mo.toList) w w'∧∀x,mo'=some x→mo=some x∨w.heap.size≤x
theorem FG {lb o:Nat} {cs:Array Value} {T:TypeId} {mo:Option Nat} {g:Int→Nat} {w:World} (h:Site o w lb cs T (.map mo)) (hc:cm w mo g) (hne:mo≠some lb) (p:Int) (hg:g p≤1000000):
  Calls Tryz.prog 77 #[.pointer (some ⟨lb,o,none⟩),.int .i64 p] w (EK lb o cs T mo g p w):=by
 have hnil:∀(w:World) (r:Option Nat),(binOp .eql 140 (.map r) (.map none)).run Tryz.prog w=.ok (.bool r.isNone) w:=fun w r=>run_eql_map_nil w _ _ _ r Tryz.underlying140
 have hcell:=h.cell;have hfr:=h.frozen;have hH:=zh h
 cases mo with
 |none=>
  have hz:g p=0:=hc p;have hcH:=zh hc;have hlt:=h.lt;have hzH:=zh hz;clear h hc hz;have hmm:=fun w=>run_makeMap (P:=Tryz.prog) 140 w
  have hes:cL (#[]:Array MapEntry).toList:=trivial;have hb1:((w.setCell ⟨lb,o,none⟩ (.map (some w.heap.size))).alloc (.map #[] 0)).heap[w.heap.size]? =some (.map #[] 0):=by
   have:=an (w.setCell ⟨lb,o,none⟩ (.map (some w.heap.size))) (.map #[] 0);simpa[World.setCell]using this
  have hlk1:(Instr.lookup 140 (.map (some w.heap.size)) (.int .i64 p) false).run Tryz.prog ((w.setCell ⟨lb,o,none⟩ (.map (some w.heap.size))).alloc (.map #[] 0))=.ok (.int .i64 0) ((w.setCell ⟨lb,o,none⟩ (.map (some w.heap.size))).alloc (.map #[] 0)):=jG (P:=Tryz.prog) (z:=.int .i64 0) Tryz.underlying140 Tryz.underlying3 (fun w=>Tryz.zeroValue3 w) hb1 hes p;have hup1:=mM (P:=Tryz.prog) Tryz.underlying140 Tryz.underlying3 hb1 hes p (.int .i64 1);have hb1H:=zh hb1;have hs1:=zh ((hH.out.put (.map (some w.heap.size))).mod ((Mod.refl [] _).alloc (.map #[] 0)) (by simp));have hm1:=zh (((Mod.refl (lb::[]) w).setCell (p:=⟨lb,o,none⟩) (.inl (by simp)) (.map (some w.heap.size))).alloc (.map #[] 0));have hlb:lb≠w.heap.size:=by omega
  have hesH:=zh hes;clear hb1 hes;go_enter Tryz.func77,Tryz.ntmps77;go_wp2;go_end0;have hg0:(.int .i64 1:Value)=.int .i64 ((g p:Int)+1):=by rw[hzH.out];rfl
  exact⟨some w.heap.size,rfl,hs1.out.mod ((Mod.refl [w.heap.size] _).gj (.inl (by simp)) _) (by simp;exact hlb),cm.put hg0 (ie hb1H.out) hesH.out (fun k=>by rw[show g k=0 from hcH.out k];rfl),hm1.out.gj (.inr (Nat.le_refl _)) _,fun x hx=>.inr (by have:=Option.some.inj hx;omega)⟩
 |some bm=>
  obtain⟨es,c,h1,h2,h3⟩:=hc;have hlk:=jG (P:=Tryz.prog) (z:=.int .i64 0) Tryz.underlying140 Tryz.underlying3 (fun w=>Tryz.zeroValue3 w) h1 h2 p;rw[h3]at hlk;have hup:=mM (P:=Tryz.prog) Tryz.underlying140 Tryz.underlying3 h1 h2 p (.int .i64 ((g p:Int)+1));have h1H:=zh h1;have h2H:=zh h2;have h3H:=zh h3;have hn:bm≠lb:=fun e=>hne (by rw[e])
  clear h h1 h2 h3;go_enter Tryz.func77,Tryz.ntmps77;go_wp2;go_end0;exact⟨some bm,rfl,hH.out.mod ((Mod.refl [bm] w).gj (.inl (by simp)) _) (by simp;exact fun e=>hn e.symm),cm.put rfl (ie h1H.out) h2H.out h3H.out,(Mod.refl _ w).gj (.inl (by simp)) _,fun x hx=>.inl hx⟩
theorem DD (miss:List Int) (p:Int):bump (gO miss) p=gO (miss++[p]):=by
 funext k;rw[BE];unfold bump;by_cases h:k=p
 ·rw[if_pos h,if_pos h.symm]
 ·rw[if_neg h,if_neg (Ne.symm h)];rfl
theorem DJ (evs:List Ev) (e:Ev):(if e.counts=true then bump (b5 evs) e.p else b5 evs)=b5 (evs++[e]):=by
 funext k;rw[wS];unfold bump;by_cases hc:e.counts=true
 ·rw[if_pos hc];by_cases h:k=e.p
  ·rw[if_pos h,if_pos ⟨h.symm,hc⟩]
  ·rw[if_neg h,if_neg fun a=>h a.1.symm];rfl
 ·rw[if_neg hc,if_neg fun a=>hc a.2];rfl
theorem C5 (miss:List Int) (p:Int):gO miss p≤miss.length:=List.length_filter_le _ _
theorem D8 (evs:List Ev) (p:Int):b5 evs p≤evs.length:=List.length_filter_le _ _
theorem wR {F:List Nat} {W w:World} {cs:List ai} {lb o:Nat} {xs:Array Value} {T:TypeId} {mo:Option Nat} {g:Int→Nat} (h:af F W (aj lb (.cells xs T (0,0))::jU mo g::cs) w) (ho:xs[o]? =some (.map mo)) (p:Int) (hg:g p≤1000000):
  Calls Tryz.prog 77 #[.pointer (some ⟨lb,o,none⟩),.int .i64 p] w fun e w'=>e=.returned (.tuple #[])∧∃mo',af F W (aj lb (.cells (xs.setIfInBounds o (.map mo')) T (0,0))::jU mo' (bump g p)::cs) w':=by
 obtain⟨f1,g1,⟨hb,e1⟩,⟨hc,e2⟩,hd,hk⟩:=h.kj;subst e1 e2;obtain⟨hlt,hv⟩:=Array.getElem?_eq_some_iff.1 ho;have hs:=Site.of hb hlt;rw[hv]at hs;have hne:mo≠some lb:=fun e=>hd lb (by simp) (by simp[e])
 refine(FG hs hc hne p hg).mono ?_;rintro e w' ⟨mo',he,k1,k2,k3,k4⟩;refine⟨he,mo',hk w' [lb] mo'.toList _ _ ⟨k1.aQ,rfl⟩ ⟨k2,rfl⟩ (fun x hx hxm=> ?_) (k3.mono fun x hx=>by simpa using hx) (fun x hx=> ?_)⟩
 ·rw[List.mem_singleton.1 hx,Option.mem_toList]at hxm;rcases k4 lb hxm with h|h
  ·exact hne h
  ·have:=aL hb;omega
 ·rcases hx with h|h
  ·exact .inl (.inl h)
  ·rw[Option.mem_toList]at h;exact(k4 x h).imp (fun e=>.inr (by simp[e])) id
theorem pI {lb:Nat} {cap:Int} {evs:List Ev} {miss:List Int} {w:World} {f:List Nat} (h:(dG lb cap evs miss).on w f) (hl:miss.length≤1000000) (p:Int):
  Calls Tryz.prog 82 #[.pointer (some ⟨lb,0,none⟩),.int .i64 p] w (bD (dG lb cap evs (miss++[p])) (.tuple #[]) w f):=by
 obtain⟨ev,bv,last,rm,mm,nb,xs,hok,hH⟩:=h;have hS:=((af.start hH).out 4 rfl).out 1 rfl;have hg:=zh (wR (o:=5) hS rfl p (Nat.le_trans (C5 miss p) hl));have hokH:=zh hok;clear hH hS hok;go_enter Tryz.func82,Tryz.ntmps82;go_wp2_with fail;refine hg.out.mono ?_;rintro e w1 ⟨rfl,mo',h1⟩;have h2:=af.back (cs:=[jU mo' (bump (gO miss) p),aj lb (.cells #[] 142 (0,0)),aT ev evs.length 100 5 (flat bC evs),aT bv nb 5 1 xs,jU rm (b5 evs)]) 1 (by simp) h1;have h3:=af.back (cs:=[aj lb (.cells #[.int .i64 cap,ev,bv,.int .u64 last,.map rm,.map mo'] 142 (0,0)),aT ev evs.length 100 5 (flat bC evs),aT bv nb 5 1 xs,jU rm (b5 evs),jU mm (gO miss)]) 4 (by simp) h2;rw[DD]at h3;have h3H:=zh h3;clear h1 h2 h3;go_wp2_with fail;go_end0;obtain⟨f',k1,k2,k3⟩:=h3H.out.done;exact⟨f',rfl,⟨ev,bv,last,rm,mo',nb,xs,hokH.out,k1⟩,k2,k3⟩
end Go.Proofs.YtdehaommhbjakaaGreat
