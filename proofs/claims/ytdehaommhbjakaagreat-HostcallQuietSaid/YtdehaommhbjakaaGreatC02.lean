/- Joined contracts. No conditions. -/
import Derived.Test.YtdehaommhbjakaaGreatProg
import Derived.StillTailTactics
import Derived.WalkSpells
import Derived.RangeFuncNested
import Derived.RangeFuncBound
import Derived.Shelf.RegionOpen
import Derived.OwnWalkIn
import Derived.LoopNIn
import Derived.LoopIn
import Derived.Test.YtdehaommhbjakaaGreatC01
set_option maxHeartbeats 2000000
set_option maxRecDepth 100000
namespace Go.Proofs.YtdehaommhbjakaaGreat.Tb
open RowKit Stg
def iY {α:Type} (l:List α) (i:Nat) (h:0<l.length):List α:=(l.set i l[l.length-1]).dropLast
theorem rj {α:Type} (l:List α) (i:Nat) (h:0<l.length):(iY l i h).length=l.length-1:=by simp[iY]
theorem mh:(Tryz.prog.info? 3).map (fun i=>(i.zero,i.size,i.bytes))=some (some (.int .i64 0),1,8):=by kernel_rfl
structure gk (T e:TypeId) (w:World) (b:Nat) (sv:Value) (cs:List Value):Prop where
 aQ:w.heap[b]? =some (.cells #[sv] T (0,0))
 row:w.ownsRow 0 e 1 sv cs.length cs
 ne:sv.ownBlock≠some b
 len:cs.length≤1000000
theorem gk.mod {T e:TypeId} {S:List Nat} {w w':World} {b:Nat} {sv:Value} {cs:List Value} (h:gk T e w b sv cs) (hm:Mod S w w') (hS:∀x,x∈b::sv.ownBlock.toList→x∉S):gk T e w' b sv cs:=
 ⟨hm.at h.aQ (hS b (by simp)),aG h.row hm (fun g hg=>hS g (by simp[hg])),h.ne,h.len⟩
theorem bg {S:List Nat} {w w':World} {b o:Nat} (hm:Mod S w w') (hb:b<w.heap.size) (hS:b∉S):w'.cell? ⟨b,o,none⟩=w.cell? ⟨b,o,none⟩:=
 World.cell?_of_block (a:=⟨b,o,none⟩) (hm.block b hb hS)
theorem BB {S:List Nat} {w w':World} {b o:Nat} (hm:Mod S w w') (hb:b<w.heap.size) (hS:b∉S):w'.frozen? ⟨b,o,none⟩=w.frozen? ⟨b,o,none⟩:=
 World.frozen?_of_block (a:=⟨b,o,none⟩) (hm.block b hb hS)
theorem BK {w:World} {base e g cap n m:Nat} {cs:List Value} (h:w.ownsRow base e 1 (.slice (some ⟨g,0,none⟩) n cap) n cs) (hm:m≤n):w.ownsRow base e 1 (.slice (some ⟨g,0,none⟩) m cap) m (cs.take m):=by
 have hl:=h.1;rcases h.2 with⟨h,_⟩|⟨g',cap',cur,h1,h2,h3,h4,h5,h6,h7⟩
 ·simp at h
 ·simp at h1;obtain⟨rfl,rfl⟩:=h1;refine⟨by simp;omega,.inr ⟨g,cap,cur,rfl,h2,h3,by omega,h5,h6,?_⟩⟩;rw[←h7,List.take_take];congr 1;omega
theorem Eb {α:Type} (f:α→Value) (xs:List α) (i:Nat) (h:0<xs.length) (z:Value):
  (((xs.map f).set i (f xs[xs.length-1])).set (xs.length-1) z).take (xs.length-1)=(iY xs i h).map f:=by
 unfold iY;rw[List.dropLast_eq_take,List.length_set,List.map_take,List.map_set];apply List.ext_getElem?;intro k;simp only[List.getElem?_take];split
 ·rw[List.getElem?_set_ne (by omega)]
 ·rfl
def oC (T e:TypeId) (v:Value) (b:Nat) (sv:Value) (cs:List Value) (w:World) (e':Ending) (w':World):Prop:=
 ∃sv',e'=.returned v∧Mod (b::sv.ownBlock.toList) w w'∧gk T e w' b sv' cs∧∀x,sv'.ownBlock=some x→sv.ownBlock=some x∨w.heap.size≤x
def j6 (w:World) (sv:Value) (cs:List Value):Prop:=
 (sv=.slice none 0 0∧cs=[])∨∃sb so cap,sv=.slice (some ⟨sb,so,none⟩) cs.length cap∧sb<w.heap.size∧∀j u,cs[j]? =some u→w.cell? ⟨sb,so+j,none⟩=some u
theorem eT (b o j:Nat):(⟨b,o,none⟩:Addr).add j=⟨b,o+j,none⟩:=by unfold Addr.add;split<;>simp_all
def p9 (e:TypeId) (cs:List Value) (w:World) (e':Ending) (w':World):Prop:=
 ∃sv',e'=.returned sv'∧Mod [] w w'∧w'.ownsRow 0 e 1 sv' cs.length cs∧∀x,sv'.ownBlock=some x→w.heap.size≤x
def Fx (T e:TypeId) (cs:List Value) (w:World) (e':Ending) (w':World):Prop:=
 ∃b sv,e'=.returned (.pointer (some ⟨b,0,none⟩))∧Mod [] w w'∧gk T e w' b sv cs∧w.heap.size≤b∧∀x,sv.ownBlock=some x→w.heap.size≤x
theorem u6 (w:World):Calls Tryz.prog 170 #[.slice none 0 0] w (p9 3 [] w):=by
 have hnil:=fun w=>Lib.run_eql_slice_nil (P:=Tryz.prog) w 28 3 none 0 0 0 0 Tryz.underlying28
 simp only[Option.isNone_none]at hnil;go_enter Tryz.func170,Tryz.ntmps170;go_wp2;go_ret;exact⟨_,rfl,Mod.refl _ _,World.ownsRow_nil _ _ _ _,by simp[Value.ownBlock]⟩
theorem AN (sb so cap:Nat) (cs:List Value) (w:World) (hb:sb<w.heap.size) (hc:∀j u,cs[j]? =some u→w.cell? ⟨sb,so+j,none⟩=some u) (h1:∀u∈cs,u.oneCell'=true) (hlen:cs.length≤1000000):
  Calls Tryz.prog 170 #[.slice (some ⟨sb,so,none⟩) cs.length cap] w (p9 3 cs w):=by
 obtain⟨i0,hi,hz0,hz1,hz2⟩:=info_parts mh;have hnil:=fun w=>Lib.run_eql_slice_nil (P:=Tryz.prog) w 28 3 (some ⟨sb,so,none⟩) cs.length cap 0 0 Tryz.underlying28
 simp only[Option.isNone_some]at hnil;have hown:(w.alloc (.cells #[] 3 (0,0))).ownsRow 0 3 1 (.slice (some ⟨w.heap.size,0,none⟩) 0 0) 0 []:=World.ownsRow_made w #[] 0 (Nat.zero_le _) (Nat.zero_le _) rfl;have hcA:∀j u,cs[j]? =some u→(w.alloc (.cells #[] 3 (0,0))).cell? ((⟨sb,so,none⟩:Addr).add j)=some u:=fun j u h=>by
  rw[eT];exact(World.cell?_of_block (a:=⟨sb,so+j,none⟩) (RowKit.Below.heap_alloc _ _ _ hb)).trans (hc j u h)
 have h63:0+cs.length≤maxLen:=by unfold maxLen;omega
 have hby:(0+cs.length)*8≤140737488355328:=by omega
 have HC:=zh hcA;clear hcA hc;go_enter Tryz.func170,Tryz.ntmps170;go_wp2_with (first|(at_builtin;refine dO _ rfl _ _ 28 rfl 3 i0 (.int .i64 0) 1 8 Tryz.underlying28 hi hz0 hz1 hz2 rfl (by decide) (.slice (some ⟨w.heap.size,0,none⟩) 0 0) 0 [] rfl hown ⟨sb,so,none⟩ cs.length cap cs rfl (by simp) HC.out h1 h63 hby ?_;intro v' w1 hown1 hgrow hfr));go_ret;have hown2:w1.ownsRow 0 3 1 v' cs.length cs:=by simpa using hown1
 refine⟨v',rfl,((Mod.refl [] w).alloc _).grown hgrow (fun k hk=>.inr ?_),hown2,fun x hx=> ?_⟩
 ·have hk':some w.heap.size=some k:=hk;have:=Option.some.inj hk';omega
 ·rcases hfr x hx with h|h
  ·have hk':some w.heap.size=some x:=h;have:=Option.some.inj hk';omega
  ·simp at h;omega
theorem Dh (sv:Value) (cs:List Value) (w:World) (hlen:cs.length≤1000000) (h:Calls Tryz.prog 170 #[sv] w (p9 3 cs w)) (hs:∃a n c,sv=.slice a n c):Calls Tryz.prog 129 #[sv] w (Fx 275 3 cs w):=by
 obtain⟨a,n,c,rfl⟩:=hs;have H:=zh h;clear h;go_enter Tryz.func129,Tryz.ntmps129;go_wp2_with fail;refine H.out.mono ?_;rintro e w1 ⟨sv',rfl,hm,hrow,hfr⟩;have hsv:∃a n c,sv'=.slice a n c:=by
  rcases dr hrow with⟨h,_⟩|⟨g,cap,h,_⟩
  ·exact⟨_,_,_,h⟩
  ·exact⟨_,_,_,h⟩
 obtain⟨a',n',c',rfl⟩:=hsv;go_wp2_with fail;go_ret;refine⟨w1.heap.size,_,rfl,hm.alloc _,⟨an _ _,aG hrow ((Mod.refl [] _).alloc _) (by simp),?_,hlen⟩,hm.size,hfr⟩;intro e;have:=(hrow.lt _ e).2;omega
theorem xi (b:Nat) (sv:Value) (cs:List Value) (w:World) (h:gk 275 3 w b sv cs):Calls Tryz.prog 192 #[.pointer (some ⟨b,0,none⟩)] w fun e w'=>e=.returned (.int .i64 cs.length)∧Mod [] w w':=by
 have hcb:=ae h.aQ;have hln:=fun ty w=>fY (ty:=ty) Tryz.underlying28 h.row w
 go_enter Tryz.func192,Tryz.ntmps192;go_wp2;go_ret;exact⟨rfl,Mod.refl _ _⟩
theorem B6 (d:Int) (b:Nat) (sv:Value) (w:World) (h:gk 275 3 w b sv []):Calls Tryz.prog 179 #[.pointer (some ⟨b,0,none⟩),.int .u64 d] w fun e w'=>e=.returned (.tuple #[.int .i64 0,.bool false])∧Mod [] w w':=by
 have H:=zh (xi b sv [] w h);clear h;go_enter Tryz.func179,Tryz.ntmps179;go_wp2_with (go_at_call 192;refine H.out.mono ?_;rintro e w1 ⟨rfl,hm1⟩);go_ret2;exact⟨rfl,hm1⟩
theorem Bl (d:Int) (hd:0≤d) (hd2:d≤18446744073709551615) (b:Nat) (sv:Value) (xs:List Int) (w:World) (h:gk 275 3 w b sv (xs.map (.int .i64))) (hn:0<xs.length) (i:Nat) (hi:d%xs.length=i) (hil:i<xs.length):
  Calls Tryz.prog 179 #[.pointer (some ⟨b,0,none⟩),.int .u64 d] w (oC 275 3 (.tuple #[.int .i64 xs[i],.bool true]) b sv ((iY xs i hn).map (.int .i64)) w):=by
 have H:=zh (xi b sv _ w h);obtain⟨hb,hrow,hne,hlen⟩:=h;simp only[List.length_map]at hrow hlen H;have hlb:=aL hb;obtain⟨g,cap,rfl,_,hg⟩:=cW hrow hn;have hgb:g≠b:=fun e=>hne (by rw[←e];rfl)
 have hHI:=zh hi;have hi0:d%xs.length=i:=hi;clear hi;go_enter Tryz.func179,Tryz.ntmps179;go_wp2_with fail;refine H.out.mono ?_;rintro e w1 ⟨rfl,hm1⟩;have hb1:=hm1.at hb (by simp);have hrow1:=aG hrow hm1 (by simp);have hcb:=ae hb1;have hg1:=hm1.lt hg;have hlc:xs.length≤cap:=by
  rcases dr hrow with⟨h,_⟩|⟨g',cap',h,_,_,h2,_⟩
  ·simp at h
  ·simp at h;obtain⟨rfl,rfl⟩:=h;exact h2
 have hcell:=fun j (hj:j<xs.length)=>hrow1.cellAt j (by omega)
 have c1:=hcell i hil;have c2:=hcell (xs.length-1) (by omega);have hf:=fun j=>hrow1.frozenAt j
 simp only[List.getElem?_map,List.getElem?_eq_getElem hil,List.getElem?_eq_getElem (show xs.length-1<xs.length by omega),Option.map_some]at c1 c2;clear hcell H;have hne0:((xs.length:Int)==0)=false:=by simp only[beq_eq_false_iff_ne];omega
 go_wp2_with fail;clear hHI;have k1:=GW.cells (S:=[]) hb1 (by simp);have k2:=GW.bR (S:=[]) c1 hg1 (by simp);have k3:=GW.bR (S:=[]) c2 hg1 (by simp);clear hcb;refine aS (by kernel_rfl) (by kernel_rfl) ?_;refine sq 14 ?_;refine dq (p:=⟨g,i,none⟩) (u:=.int .i64 xs[xs.length-1]) (fun w=>w.setCell ⟨g,i,none⟩ (.int .i64 xs[xs.length-1])) rfl rfl (by kernel_rfl) rfl rfl rfl (fun w hw=> ?_) (fun w2 hm2=> ?_)
 ·have c1:=(bg hw hg1 (by simp)).trans c1;have f1:=(BB hw hg1 (by simp)).trans (hf i);clear k1 k2 k3 hf;go_simp
 ·have hb2:=(hm1.ag hm2).at hb (by simp);have hrow2:=aG hrow1 hm2 (by simp);have hg2:=hm2.lt hg1;obtain⟨hrow3,hgr3⟩:=hrow2.stored i (.int .i64 xs[xs.length-1]);have hmm:=hm1.ag hm2;clear k1 k2 k3 hf c1 c2 hb1 hrow1 hm1 hm2;have hb3:=dI (a:=⟨g,i,none⟩) (v:=.int .i64 xs[xs.length-1]) hb2 (by simp;omega);have hm3:=((hmm.mono (T:=[b,g]) (by simp))).setCell (p:=⟨g,i,none⟩) (.inl (by simp)) (.int .i64 xs[xs.length-1]);have hg3:=hg2;have hg3:g<(w2.setCell ⟨g,i,none⟩ (.int .i64 xs[xs.length-1])).heap.size:=by simpa[World.setCell]using hg2
  generalize w2.setCell ⟨g,i,none⟩ (.int .i64 xs[xs.length-1])=w3 at*;clear hb2 hrow2 hg2 hmm;have c3:=hrow3.cellAt (xs.length-1) (by omega);have f3:=hrow3.frozenAt (xs.length-1);have hcb:=ae hb3;have hfb:=ay hb3;have hc3:∃u,w3.cell? ⟨g,xs.length-1,none⟩=some u:=⟨_,by rw[c3];exact List.getElem?_eq_getElem (by simp;omega)⟩;obtain⟨u,hu⟩:=hc3;have hn1:((xs.length:Int)-1).toNat=xs.length-1:=by omega
  clear c3;go_wp2_with fail;go_ret2;obtain⟨hrow5,_⟩:=hrow3.stored (xs.length-1) (.int .i64 0);have hb5:=dI (a:=⟨g,xs.length-1,none⟩) (v:=.int .i64 0) hb3 (by simp;omega);have hm5:=hm3.setCell (p:=⟨g,xs.length-1,none⟩) (.inl (by simp)) (.int .i64 0);refine⟨_,rfl,hm5.setCell (.inl (by simp)) _,⟨aq (o:=0) hb5,?_,?_,?_⟩,fun x hx=>.inl hx⟩
  ·have h6:=aG hrow5 ((Mod.refl [b] _).setCell (p:=⟨b,0,none⟩) (.inl (by simp)) (.slice (some ⟨g,0,none⟩) (xs.length-1) cap)) (fun x hx=>by simp[Value.ownBlock]at hx;subst hx;simpa using hgb);have h7:=BK h6 (Nat.sub_le xs.length 1);rw[Eb (.int .i64) xs i hn (.int .i64 0)]at h7;rw[List.length_map,rj];exact h7
  ·simpa[Value.ownBlock]using hgb
  ·rw[List.length_map,rj];omega
theorem sR (x:Int) (b:Nat) (sv:Value) (cs:List Value) (w:World) (h:gk 275 3 w b sv cs) (hlen:cs.length<1000000):
  Calls Tryz.prog 130 #[.pointer (some ⟨b,0,none⟩),.int .i64 x] w (oC 275 3 (.tuple #[]) b sv (cs++[.int .i64 x]) w):=by
 obtain⟨i0,hi,hz0,hz1,hz2⟩:=info_parts mh;obtain⟨hb,hrow,hne,hlen'⟩:=h;have hlb:=aL hb;have hcb:=ae hb;have hbA:=aI (o:=.cells #[.int .i64 x] 3 (0,0)) hb;have h63:cs.length+1≤maxLen:=FD (Nat.le_refl _) hlen';have hby:(cs.length+1)*8≤140737488355328:=sized (Nat.le_refl _) hlen' (by omega);go_enter Tryz.func130,Tryz.ntmps130;go_wp2_with (first|(at_builtin;refine dO _ rfl _ _ 28 rfl 3 i0 (.int .i64 0) 1 8 Tryz.underlying28 hi hz0 hz1 hz2 rfl (by decide) sv cs.length cs rfl (hrow.alloc _) ⟨w.heap.size,0,none⟩ 1 1 [.int .i64 x] rfl rfl (ny _ _ _) (by simp[Value.oneCell']) h63 hby ?_;intro v' w1 hown1 hgrow hfr;obtain⟨g',cap',rfl,_,_⟩:=cW hown1 (by omega);have hm1:=((Mod.refl (b::sv.ownBlock.toList) w).alloc (.cells #[.int .i64 x] 3 (0,0))).grown hgrow (by intro k hk;left;simp[hk]);have hbx:=(((Mod.refl sv.ownBlock.toList (w.alloc (.cells #[.int .i64 x] 3 (0,0)))).grown hgrow (by intro k hk;left;simp[hk])).at hbA (by simpa using hne));have hcb1:=ae hbx;have hfb1:=ay hbx));go_end0;have hgb:g'≠b:=by
  rcases hfr g' rfl with h|h
  ·intro e;exact hne (by rw[h,e])
  ·simp at h;omega
 refine⟨_,rfl,hm1.setCell (.inl (by simp)) _,⟨aq (o:=0) hbx,?_,?_,by simp;omega⟩,fun x hx=>(hfr x hx).imp id (fun h=>by simp at h;omega)⟩
 ·have:=aG hown1 ((Mod.refl [b] _).setCell (p:=⟨b,0,none⟩) (.inl (by simp)) (.slice (some ⟨g',0,none⟩) (cs.length+1) cap')) (fun k hk=>by simp[Value.ownBlock]at hk;subst hk;simpa using hgb);simpa using this
 ·simpa[Value.ownBlock]using hgb
attribute [local go_sem] Oper.semAt_some
def km (n₀:Nat) (Av:World→Nat→Prop) (W W':World):Prop:=
 W.heap.size≤W'.heap.size∧∀k cs T fr,n₀≤k→Av W k→W.heap[k]? =some (.cells cs T fr)→W'.heap[k]? =some (.cells cs T fr)∧Av W' k
theorem km.trans {n₀:Nat} {Av:World→Nat→Prop} {A B C:World} (h:km n₀ Av A B) (k:km n₀ Av B C):km n₀ Av A C:=
 ⟨Nat.le_trans h.1 k.1,fun j cs T fr hj ha hc=>by
  obtain⟨h1,h2⟩:=h.2 j cs T fr hj ha hc;exact k.2 j cs T fr hj h2 h1⟩
theorem sP {w w':World} {base sz n:Nat} {e:TypeId} {v:Value} {xs:List Value} (h:w.ownsRow base e sz v n xs) (hs:∀g cs fr,v.ownBlock=some g→w.heap[g]? =some (.cells cs e fr)→w'.heap[g]? =some (.cells cs e fr)):w'.ownsRow base e sz v n xs:=by
 rcases h.2 with⟨h1,h2⟩|⟨g,cap,cur,rfl,h2,h3,h4,h5,h6,h7⟩
 ·exact⟨h.1,.inl ⟨h1,h2⟩⟩
 ·exact⟨h.1,.inr ⟨g,cap,cur,rfl,h2,hs g _ _ rfl h3,h4,h5,h6,h7⟩⟩
theorem AR (b:Nat) (sv:Value) (cs:List Value) (w:World) (h:gk 275 3 w b sv cs) (h1:∀u∈cs,u.oneCell'=true):Calls Tryz.prog 170 #[sv] w (p9 3 cs w):=by
 obtain⟨hb,hrow,hne,hlen⟩:=h;rcases hrow.2 with⟨rfl,h2⟩|⟨g,cap,cur,rfl,h2,h3,h4,h5,h6,h7⟩
 ·have:cs=[]:=List.eq_nil_of_length_eq_zero h2;subst this;exact u6 w
 ·refine AN g 0 cap cs w (aL h3) (fun j u hj=> ?_) h1 hlen;have hjl:=(List.getElem?_eq_some_iff.1 hj).1;have hc:=hrow.cellAt j (by omega);rw[Nat.zero_add,hc,hj]
theorem CF (p:Option Addr) (w:World):Calls Tryz.prog 190 #[.pointer p] w fun e w'=>e=.returned (.func (.func 200) #[] #[.pointer (some ⟨w.heap.size,0,none⟩)])∧w'=w.alloc (.cells #[.pointer p] 230):=by
 go_enter Tryz.func190,Tryz.ntmps190;go_wp2;go_ret;exact⟨rfl,rfl⟩
theorem Fk (n:Nat) (hn:1≤n) (l Bs n₀ b:Nat) (Av:World→Nat→Prop) (sv:Value) (xs:List Int) (J Jx:List Int→World→Prop)
  (hY:∀pre x W,J pre W→pre.length<xs.length→YieldAt Fence.wide (n-1) Tryz.prog l #[.int .i64 x] W fun e W'=>
   (e=.returned (.bool true)∧J (pre++[x]) W'∧km n₀ Av W W')∨(e=.returned (.bool false)∧Jx (pre++[x]) W'))
  (W:World) (hn₀:n₀≤W.heap.size) (hBs:W.cell? ⟨Bs,0,none⟩=some (.pointer (some ⟨b,0,none⟩))) (hp:gk 275 3 W b sv (xs.map (.int .i64)))
  (hAv:∀W2 k,RowKit.Below W.heap.size W W2→W.heap.size≤k→Av W2 k) (hJ:AbidesFrom W.heap.size J) (h0:J [] W):
  CallsIn Fence.wide n Tryz.prog 200 #[.func (.yield l) #[] #[],.pointer (some ⟨Bs,0,none⟩)] W fun e W'=>(∃v,e=.returned v)∧
   ((∃ys,ys=xs∧J ys W')∨(∃pre,pre<+:xs∧Jx pre W')):=by
 have hcl:=zh (AR b sv _ W hp (by simp[Value.oneCell']));have hlen:=hp.len;simp only[List.length_map]at hlen;have hcb:=ae hp.aQ;clear hp;refine callsIn_of_wp Tryz.func200 rfl trivial ?_ rfl;simp only[Tryz.ntmps200,List.size_toArray,List.length_cons,List.length_nil,Nat.reduceAdd,Nat.reduceSub,Array.replicate_succ,Array.replicate_zero,List.push_toArray,List.append_toArray,List.nil_append,List.cons_append];gi_wp2_with fail;refine⟨trivial,(callsIn_wide.2 hcl.out).mono ?_⟩;clear hcl;rintro e w1 ⟨sv',rfl,hm,hrow,hfr⟩;simp only[List.length_map]at hrow;have hb1:=hm.below;have hJ1:J [] w1:=hJ _ _ _ none h0 ⟨hb1.os,hb1.tape,hb1.output,hb1.size,fun k hk _=>hb1.block k hk⟩ (by simp);have hln:=fun ty w=>fY (ty:=ty) Tryz.underlying28 hrow w
 have hown:∀g,sv'.ownBlock=some g→n₀≤g∧Av w1 g:=fun g hg=>⟨Nat.le_trans hn₀ (hfr g hg),hAv w1 g hb1 (hfr g hg)⟩
 clear hfr hb1 hm h0 hcb hBs hAv hJ
 gi_wp2_with fail
 gi_loopw [13] (fun i wr=>∃k:Nat,k≤xs.length∧i=.int .i64 k∧J (xs.take k) wr∧wr.ownsRow 0 3 1 sv' xs.length (xs.map (.int .i64))∧∀g,sv'.ownBlock=some g→n₀≤g∧Av wr g)
  (fun i _=>xs.length-(intOf i).toNat)
 case atStart=>exact⟨0,Nat.zero_le _,rfl,hJ1,hrow,hown⟩
 case round=>
  obtain⟨k,hk,rfl,hJs,hrw,hav⟩:=hrel;clear hrow hown hJ1;by_cases hlt:k<xs.length
  ·obtain⟨g,cap,rfl,_,hg⟩:=cW hrw (by omega);have hc:=hrw.cellAt k (by simpa using hlt);simp only[List.getElem?_map,List.getElem?_eq_getElem hlt,Option.map_some]at hc;have htk:xs.take k++[xs[k]]=xs.take (k+1):=by rw[List.take_add_one,List.getElem?_eq_getElem hlt];rfl
   obtain⟨fn,tmps,assign,body,hy,hR⟩:=hY _ xs[k] wr hJs (by rw[List.length_take];omega);rw[htk]at hR;generalize xs[k]=x at*;clear hY
   gi_wp2_with fail
   refine hR.mono ?_;rintro e W3 (⟨rfl,hJ3,hk3⟩|⟨rfl,hJx3⟩)
   ·gi_wp2_with fail
    go_roundw
    case rel=>exact⟨k+1,by omega,by simp,hJ3,sP hrw (fun g cs fr hg hb=>(hk3.2 g cs _ fr (hav g hg).1 (hav g hg).2 hb).1),fun g' hg'=>⟨(hav g' hg').1,by
      rcases hrw.2 with⟨h,_⟩|⟨g2,cap2,cur,h,h2,h3,_⟩
      ·simp at h
      ·simp at h;obtain⟨rfl,rfl⟩:=h;have hk':some g=some g':=hg';obtain rfl:=Option.some.inj hk';exact(hk3.2 g _ _ _ (hav g rfl).1 (hav g rfl).2 h3).2⟩⟩
    case measure=>simp[intOf];omega
   ·gi_wp2_with fail
    refine bodyPost_ret (results_none rfl _ _ _) rfl ?_;exact⟨⟨_,rfl⟩,.inr ⟨_,List.take_prefix (k+1) xs,hJx3⟩⟩
  ·obtain rfl:k=xs.length:=by omega
   gi_wp2_with fail
   go_end0;exact⟨⟨_,rfl⟩,.inl ⟨_,rfl,by simpa using hJs⟩⟩
theorem Bg (n:Nat) (hn:1≤n) (Bs n₀ b:Nat) (Av:World→Nat→Prop) (sv:Value) (xs:List Int) (w:World) (hBs:w.heap[Bs]? =some (.cells #[.pointer (some ⟨b,0,none⟩)] 230 (0,0))) (hn₀:n₀≤w.heap.size) (hp:gk 275 3 w b sv (xs.map (.int .i64)))
  (hAv:∀W W2 k,RowKit.Below w.heap.size w W→RowKit.Below W.heap.size W W2→W.heap.size≤k→Av W2 k):
  SeqStopsK Fence.wide n Tryz.prog 200 #[.pointer (some ⟨Bs,0,none⟩)] (fun x:Int=>#[Value.int .i64 x]) (km n₀ Av) (fun ys=>ys=xs) (fun pre=>pre<+:xs) xs.length w:=fun l J Jx W hW hJ _ hY h0=>
 Fk n hn l Bs n₀ b Av sv xs J Jx hY W (Nat.le_trans hn₀ hW.size) ((World.cell?_of_block (a:=⟨Bs,0,none⟩) (hW.block Bs (aL hBs))).trans (by rw[ae hBs];rfl)) (hp.mod (Mod.lB hW) (by simp)) (fun W2 k h1 h2=>hAv W W2 k hW h1 h2) hJ h0
theorem FH {n₀:Nat} {Av:World→Nat→Prop}:∀ {A B C:World},km n₀ Av A B→km n₀ Av B C→km n₀ Av A C:=fun h k=>h.trans k
theorem Fl {n₀ B:Nat} {Av:World→Nat→Prop} (hAv:∀(W:World) (l:Nat) (o':Obj) k,B≤l→Av W k→Av (W.putObj l o') k):∀(W:World) (l:Nat) (o o':Obj),B≤l→W.heap[l]? =some o→o.isCells=false→o.isWalk=false→km n₀ Av W (W.putObj l o'):=by
 intro W l o o' hl ho hc _;have hg:=grownBy_putObj' W l o';refine⟨hg.size,fun k cs T fr _ ha hk=>⟨(hg.block k (aL hk) (fun e=> ?_)).trans hk,hAv W l o' k hl ha⟩⟩;have e':k=l:=Option.some.inj e;subst e';rw[hk]at ho;cases ho;simp[Obj.isCells]at hc
end Go.Proofs.YtdehaommhbjakaaGreat.Tb
