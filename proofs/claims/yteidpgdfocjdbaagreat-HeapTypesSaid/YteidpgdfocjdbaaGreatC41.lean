/- Joined contracts. No conditions. -/
import Derived.Test.YteidpgdfocjdbaaGreatCS
import Derived.Test.YteidpgdfocjdbaaGreatC16
import Derived.Test.YteidpgdfocjdbaaGreatC17
import Derived.Test.YteidpgdfocjdbaaGreatC31
import Derived.Test.YteidpgdfocjdbaaGreatC32
import Derived.Test.YteidpgdfocjdbaaGreatC33
import Derived.Test.YteidpgdfocjdbaaGreatC34
import Derived.Test.YteidpgdfocjdbaaGreatC40
set_option maxHeartbeats 8000000
set_option maxRecDepth 100000
namespace Go.Proofs.YteidpgdfocjdbaaGreat
open Go Go.RowKit Go.Stg
attribute [local go_sem] Oper.semAt_some
abbrev ObX:=(Int×Tb.Ent)×Value×Value
def obCell (x:ObX):List Value:=[.int .u64 x.1.2.h,.int .i64 x.1.2.owner,.int .i64 x.1.2.off,.int .i64 x.1.2.len,x.2.1,x.2.2]
theorem obCell_length (x:ObX):(obCell x).length=6:=rfl
def ObIn (s:HS) (q:Nat) (W:World) (x:ObX):Prop:=
 W.ownsRow q 5 1 x.2.1 (memH s x.1.1.toNat).length (bvals (memH s x.1.1.toNat))∧W.ownsRow q 130 4 x.2.2 (Bw.ofO s.L x.1.1).length (flat Bw.bcell (Bw.ofO s.L x.1.1))
theorem ObIn.mod {s:HS} {q:Nat} {W W':World} {x:ObX} (h:ObIn s q W x) (hm:Mod [] W W'):ObIn s q W' x:=⟨row_mod h.1 hm (by simp),row_mod h.2 hm (by simp)⟩
def ObsI (s:HS) (q:Nat) (pre:List (Int×Tb.Ent)) (W:World):Prop:=
 ∃(X:List ObX) (v:Value),X.map (·.1)=pre∧Boxed W (q+1) 53 v∧W.ownsRow q 60 6 v X.length (flat obCell X)∧∀x∈X,ObIn s q W x
theorem liveP_at {x:Tb.TS} {k:Nat} {p:Int×Tb.Ent} (h:p∈Tb.liveP x k):∃j:Nat,j<k∧p=((j:Int),Tb.entN x.E j)∧(Tb.slotN x.g.S j).2=true:=by
 unfold Tb.liveP at h;obtain⟨j,hj,e⟩:=List.mem_filterMap.1 h;rw[List.mem_range]at hj
 cases hl:(Tb.slotN x.g.S j).2 with
 |false=>rw[hl]at e;simp at e
 |true=>rw[hl]at e;simp at e;exact⟨j,hj,e.symm,hl⟩
theorem ob_facts {c:HC} {k:Nat} {s:HS} (hc:c.Ok) (hI:HInv c k s) {B:List Int} (hB:ArIs c.size (obs c s) B) {p:Int×Tb.Ent} (hp:p∈Tb.liveP s.T c.n):
  ∃(j xo xl:Nat),p.1=j∧p.2.off=xo∧p.2.len=xl∧((xo:Int),(xl:Int))∈usedH c s∧(memH s j).length≤xl∧((memH s j).length:Int)=Ty.sizeT (Ty.lookT s.R p.2.tag).1 (Ty.lookT s.R p.2.tag).2∧Ty.TyOk (Ty.lookT s.R p.2.tag)∧(B.drop xo).take (memH s j).length=memH s j:=by
 obtain⟨j,hj,rfl,hl⟩:=liveP_at hp;obtain⟨xo,xl,ho,hle,hl0,hml⟩:=live_ext hI hj hl;have hm:=obs_mem hj hl;have hu:=List.mem_map_of_mem (f:=(·.1)) hm;rw[obs_used]at hu;unfold extE at hm hu;rw[ho,hle]at hm hu;have hE:=(hI.ent _ (liveE_mem hj hl)).2.1;refine⟨j,xo,xl,rfl,ho,hle,hu,hml,hI.mem j hj hl,HInv.tagIn hc hI hE,?_⟩;have hus:=hI.uok;rw[←obs_used]at hus;have:=hB.read hus hm (p:=0) (n:=(memH s j).length) (by simp) (by simp only;omega);simpa using this
theorem ObIn.grown {s:HS} {q:Nat} {W W':World} {x:ObX} {row:Option Nat} (h:ObIn s q W x) (hg:W.grownBy W' row) (hr:∀r,row=some r→∃o:Obj,W.heap[r]? =some o∧∀cs fr,o≠ .cells cs 5 fr∧o≠ .cells cs 130 fr):ObIn s q W' x:=by
 refine⟨Tb.row_same h.1 fun g cs fr hg' hc=> ?_,Tb.row_same h.2 fun g cs fr hg' hc=> ?_⟩
 ·refine(hg.block g (lt_of hc) fun e=> ?_).trans hc;obtain⟨o,ho,hno⟩:=hr g e.symm;rw[hc]at ho;cases ho;exact(hno _ _).1 rfl
 ·refine(hg.block g (lt_of hc) fun e=> ?_).trans hc;obtain⟨o,ho,hno⟩:=hr g e.symm;rw[hc]at ho;cases ho;exact(hno _ _).2 rfl
theorem ObsI.own (s:HS) (q B:Nat):OwnFrom B (fun pre W=>ObsI s q pre W):=by
 rintro pre X Y row ⟨L,v,h1,h2,h3,h4⟩ hg hr;have no:∀r,row=some r→∃o:Obj,X.heap[r]? =some o∧o.isCells=false:=fun r e=>(hr r e).2
 refine⟨L,v,h1,boxed_own (q+1) 53 (fun(_:Unit)=>v) () X Y row h2 hg no,Tb.row_same h3 fun g cs fr e hc=> ?_,fun x hx=>(h4 x hx).grown hg fun r e=> ?_⟩
 ·refine(hg.block g (lt_of hc) fun e'=> ?_).trans hc;obtain⟨o,ho,hno⟩:=no g e'.symm;rw[hc]at ho;cases ho;cases hno
 ·obtain⟨o,ho,hno⟩:=no r e;refine⟨o,ho,fun cs fr=>⟨fun e=> ?_,fun e=> ?_⟩⟩<;>(rw[e]at hno;cases hno)
theorem row_apart {w:World} {base e sz n b:Nat} {v:Value} {xs:List Value} {cs:Array Value} {T:TypeId} {fr:Nat×Nat} (h:w.ownsRow base e sz v n xs) (hb:w.heap[b]? =some (.cells cs T fr)) (hT:T≠e):b∉v.ownBlock.toList:=by
 intro hx;rw[Option.mem_toList]at hx;rcases h.2 with⟨rfl,_⟩|⟨g,cap,cur,rfl,h2,h3,_⟩
 ·cases hx
 ·have:some g=some b:=hx;obtain rfl:=Option.some.inj this;rw[hb]at h3;cases h3;exact hT rfl
theorem row_other {w:World} {base e sz n base' e' sz' n':Nat} {v v':Value} {xs xs':List Value} (h:w.ownsRow base e sz v n xs) (h':w.ownsRow base' e' sz' v' n' xs') (hT:e'≠e):∀g,v'.ownBlock=some g→g∉v.ownBlock.toList:=by
 intro g hg;rcases h'.2 with⟨rfl,_⟩|⟨g',cap,cur,rfl,h2,h3,_⟩
 ·cases hg
 ·have:some g'=some g:=hg;obtain rfl:=Option.some.inj this;exact row_apart h h3 hT
theorem row_raise {w:World} {b q sz n:Nat} {e:TypeId} {v:Value} {xs:List Value} (h:w.ownsRow b e sz v n xs) (hg:∀g,v.ownBlock=some g→q≤g):w.ownsRow q e sz v n xs:=by
 refine⟨h.1,?_⟩;rcases h.2 with hn|⟨g,cap,cur,rfl,h2,h3⟩
 ·exact .inl hn
 ·exact .inr ⟨g,cap,cur,rfl,hg g rfl,h3⟩
theorem belowK_b'' {n B:Nat} (h:n≤B):∀(W:World) (l:Nat) (o o':Obj),B≤l→W.heap[l]? =some o→o.isCells=false→o.isWalk=false→RowKit.Below n W (W.putObj l o'):=by
 intro W l o o' hl _ _ _;exact⟨rfl,rfl,rfl,by simp[World.putObj],fun k hk=>World.putObj_heap_other (by omega)⟩
theorem info_ob:(Tryz.prog.info? 60).map (fun i=>(i.zero,i.size,i.bytes))=some (some (.agg #[.int .u64 0,.int .i64 0,.int .i64 0,.int .i64 0,.slice none 0 0,.slice none 0 0]),6,80):=by kernel_rfl
theorem objs_ok {F:List Nat} {W w:World} {cs:List Comp} {a:HA} {c:HC} {k:Nat} {s:HS} (hc:c.Ok) (hI:HInv c k s) (hk:k≤1000) (hS:Scene F W (hpA a c s::cs) w):
  Calls Tryz.prog 91 #[.pointer (some ⟨a.hb,0,none⟩)] w fun e w'=>∃(X:List ObX) (v:Value),e=.returned v∧X.map (·.1)=Tb.liveP s.T c.n∧w'.ownsRow w.heap.size 60 6 v X.length (flat obCell X)∧(∀x∈X,ObIn s w.heap.size w' x)∧Mod [] w w':=by
 obtain⟨B,hB,hS0⟩:=hp_open hS;have hfa:=Lib.hid fun p hp=>ob_facts hc hI hB (p:=p) hp
 have hlin:=Lib.hid hI.lin;have hllen:=Lib.hid hI.llen;have hbk:=Lib.hid (hS0.block 0 rfl);have hwk:=Lib.hid fun w' (hm:Mod [] w w')=>works_ok (hm.at hbk.out (by simp))
 obtain⟨far,harW, -⟩:=hS0.part 1 rfl;obtain⟨frt,hrtW, -⟩:=hS0.part 2 rfl;obtain⟨ftb,htbW, -⟩:=hS0.part 3 rfl;obtain⟨flb,hlbW, -⟩:=hS0.part 4 rfl;have hTI:=hI.tin;have hn:=hc.n;have hf1:=hc.f1;have har:=Lib.hid harW;have hrt:=Lib.hid hrtW;have htb:=Lib.hid htbW;have hlb:=Lib.hid hlbW;clear hS hS0 hB harW hrtW htbW hlbW;refine(callsIn_wide (n:=5)).1 ?_;refine callsIn_of_wp_marks Tryz.func91 rfl trivial ?_ rfl;simp only[Tryz.ntmps91,List.size_toArray,List.length_cons,List.length_nil,Nat.reduceAdd,Nat.reduceSub,Array.replicate_succ,Array.replicate_zero,List.push_toArray,List.append_toArray,List.nil_append,List.cons_append];have hm0:=((Mod.refl [] w).alloc (.cells #[.pointer (some ⟨a.hb,0,none⟩)] 27)).alloc (.cells #[.slice none 0 0] 53);have b0:=at_alloc_old (o:=.cells #[.slice none 0 0] 53) (at_alloc w (.cells #[.pointer (some ⟨a.hb,0,none⟩)] 27));have b1:=at_alloc (w.alloc (.cells #[.pointer (some ⟨a.hb,0,none⟩)] 27)) (.cells #[.slice none 0 0] 53);rw[World.size_alloc]at b1;have cb0:=cells_of b0;have hm0:=Lib.hid hm0;have b0:=Lib.hid b0;have b1:=Lib.hid b1
 gi_wp2_with fail
 refine⟨trivial,(callsIn_wide.2 (hwk.out _ hm0.out)).mono ?_⟩;generalize(w.alloc (.cells #[.pointer (some ⟨a.hb,0,none⟩)] 27)).alloc (.cells #[.slice none 0 0] 53)=W0 at*;generalize hq:w.heap.size=q at*;rintro e w1 ⟨rfl,hm1⟩;have b0:=Lib.hid (hm1.at b0.out (by simp));have b1:=Lib.hid (hm1.at b1.out (by simp));have hm1:=Lib.hid (hm0.out.nil_then hm1);have cb0:=cells_of b0.out;have cbh:=cells_of (hm1.out.at hbk.out (by simp));clear hm0 hwk
 gi_wp2_with fail
 refine⟨trivial,(callsIn_wide.2 (Tb.TAll_made (some ⟨a.tb,0,none⟩) _)).mono ?_⟩;rintro e w2 ⟨rfl,rfl⟩;gi_wp2_with fail;have hm2:=hm1.out.alloc (.cells #[.pointer (some ⟨a.tb,0,none⟩)] 78);have b0':=at_alloc_old (o:=.cells #[.pointer (some ⟨a.tb,0,none⟩)] 78) b0.out;have b1':=at_alloc_old (o:=.cells #[.pointer (some ⟨a.tb,0,none⟩)] 78) b1.out;have b3:=at_alloc w1 (.cells #[.pointer (some ⟨a.tb,0,none⟩)] 78);have hq1:=lt_of b1.out;have hsz:(w1.alloc (.cells #[.pointer (some ⟨a.tb,0,none⟩)] 78)).heap.size=w1.heap.size+1:=by simp
 have hB:=hm2.below;have hT2:=Comp.keep _ htb.out hm2 (by simp);clear cb0 cbh b0 b1 hm1;generalize w1.alloc (.cells #[.pointer (some ⟨a.tb,0,none⟩)] 78)=W2 at*;generalize w1.heap.size=tbk at*;rw[hq]at hB;have b1b:Boxed W2 (q+1) 53 (.slice none 0 0):=b1';have hst:=Tb.TAll_says 4 (by omega) tbk W2.heap.size (Tb.Apart1 (q+1)) hTI hn W2 b3 (by omega) hT2 (fun W W3 k h1 h2 hk v hv=>by
  have e1:W3.cell? ⟨q+1,0,none⟩=some (.slice none 0 0):=by
   rw[World.cell?_of_block (a:=⟨q+1,0,none⟩) (h2.block _ (Nat.lt_of_lt_of_le (by show q+1<W2.heap.size;omega) h1.size)),World.cell?_of_block (a:=⟨q+1,0,none⟩) (h1.block _ (by show q+1<W2.heap.size;omega))];exact b1b.cell
  rw[e1]at hv;cases hv;simp[Value.ownBlock])
 refine wpIn_rangeFunc_at rfl (by omega) (gf:=146) (lb:=#[.pointer (some ⟨tbk,0,none⟩)]) rfl trivial (enters_of Tryz.func146 (by kernel_rfl) rfl) hst (RowKit.Below.refl _ _) (fun _=>rfl)
  Tb.keeps_t (Tb.keeps_b (Tb.apart1_put (by omega)))
  (fun(pre:List (Int×Tb.Ent)) W=>ObsI s q pre W∧(Boxed W q 27 (.pointer (some ⟨a.hb,0,none⟩))∧RowKit.Below q w W)) (fun _ _ _=>False)
  (OwnFrom.and (ObsI.own s q _) (OwnFrom.and (Own.from (boxed_own q 27 (fun(_:List (Int×Tb.Ent))=>.pointer (some ⟨a.hb,0,none⟩))) _) (ownFrom_below (by omega) (by omega))))
  (fun _=>ownFrom_pure _ _) ⟨⟨[],_,rfl,b1b,World.ownsRow_nil _ _ _ _,by simp⟩,b0',hB⟩
  (fun T x r=>(((T.setIfInBounds 16 (.int .i64 x.1)).setIfInBounds 17 (Tb.entV x.2)).setIfInBounds 4 (.int .i64 x.1)).setIfInBounds 5 (.pointer (some ⟨r,0,none⟩)))
  (fun pre x r W=>W.heap[r]? =some (.cells #[.int .u64 x.2.h,.int .i64 x.2.owner,.int .i64 x.2.tag,.int .i64 x.2.off,.int .i64 x.2.len] 119 (0,0))∧q+1<r∧pre++[x]<+:Tb.liveP s.T c.n)
  ?hax ?assign ?body ?done ?stop
 case hax=>
  rintro pre x r _ A B row ⟨h1,h2,h3⟩ hg hr;exact⟨(hg.block r (lt_of h1) (fun e'=>by obtain⟨_,o,ho,hc⟩:=hr r e'.symm;rw[h1]at ho;cases ho;cases hc)).trans h1,h2,h3⟩
 case assign=>
  rintro l pre ⟨ps,eh,eo,et,ef,el⟩ W K ⟨hO,hh,hB⟩ hpre hK;have hKH:=Lib.hid hK;clear hK hst;unfold Tb.entV
  gi_wp2_with fail
  have hb:=at_alloc W (.cells #[.int .u64 eh,.int .i64 eo,.int .i64 et,.int .i64 ef,.int .i64 el] 119 (0,0));obtain⟨X,v,hX,hbx,hrow,hin⟩:=hO;have hlt:=lt_of hbx;have hm:=(Mod.refl [] W).alloc (.cells #[.int .u64 eh,.int .i64 eo,.int .i64 et,.int .i64 ef,.int .i64 el] 119 (0,0));refine hKH.out W.heap.size _ ((KeepsOthers.alloc W _).from _) ⟨by simp,fun k cs T fr hk ha hck=>⟨at_alloc_old hck,fun u hu=>ha u ?_⟩⟩ ⟨⟨X,v,hX,hbx.alloc _,hrow.alloc _,fun x hx=>(hin x hx).mod hm⟩,hh.alloc _,hB.trans ((RowKit.Below.refl q W).alloc (by omega) _)⟩ ⟨hb,by omega,hpre⟩;rw[(hbx.alloc _).cell]at hu;rw[hbx.cell];exact hu
 case body=>
  rintro l pre ⟨ps,eh,eo,et,ef,el⟩ r W ⟨⟨X,v,hX,hbx,hrow,hin⟩,hh,hB⟩ ⟨hr,hqr,hpre⟩ hlen;have hmW:Mod [] w W:=Mod.of_below (by rw[hq];exact hB);obtain⟨j,xo,xl,e1,e2,e3,hus,hml,hms,hto,htk⟩:=hfa.out (ps,⟨eh,eo,et,ef,el⟩) (hpre.subset (by simp));simp only at e1 e2 e3 hms hto hr;subst e1 e2 e3;have hXl:X.length≤4096:=by
   have h1:=congrArg List.length hX;rw[List.length_map]at h1;have h2:=Tb.liveP_len s.T c.n;omega
  have hsz:=Lib.hid fun w' (hm:Mod [] W w')=>(hms.symm▸sizeof_ok ((hmW.nil_then hm).at hbk.out (by simp)) (Comp.keep _ hrt.out (hmW.nil_then hm) (by simp)) ⟨eh,eo,et,xo,xl⟩ hto:Calls Tryz.prog 125 #[.pointer (some ⟨a.hb,0,none⟩),.agg #[.int .u64 eh,.int .i64 eo,.int .i64 et,.int .i64 xo,.int .i64 xl]] w' fun e w''=>e=.returned (.int .i64 (memH s j).length)∧Mod [] w' w'')
  have hrd:=Lib.hid fun w' (hm:Mod [] W w')=>(show Calls Tryz.prog 124 #[.pointer (some ⟨a.ar,0,none⟩),.agg #[.int .i64 xo,.int .i64 xl],.int .i64 0,.int .i64 (memH s j).length] w' fun e w''=>∃v,e=.returned (.tuple #[v,.int .i64 0])∧w''.ownsRow w'.heap.size 5 1 v (memH s j).length (bvals (memH s j))∧Mod [] w' w'' by
   have:=arread_ok (Comp.keep _ har.out (hmW.nil_then hm) (by simp)) hus 0 (memH s j).length (by omega)
   rwa [Nat.add_zero,htk]at this)
  have hof:=Lib.hid fun w' (hm:Mod [] W w')=>Bw.of_ok (p:=some ⟨a.lb,0,none⟩) (L:=s.L) (.inr ⟨a.lb,flb,rfl,Comp.keep _ hlb.out (hmW.nil_then hm) (by simp)⟩) hlin.out.srt (by have:=hllen.out;omega) (j:Int)
  have hkh:=Lib.hid (hmW.at hbk.out (by simp));have hrH:=Lib.hid hr;have hhH:=Lib.hid hh;have hbxH:=Lib.hid hbx;have hrowH:=Lib.hid hrow;have hinH:=Lib.hid hin;have hBH:=Lib.hid hB;have hXH:=Lib.hid hX;have hqW:=lt_of hbx;clear hst hmW hus hml hms hto htk hr hh hbx hrow hin hB hX hT2 b0' b1' b3 b1b hm2 hlen hpre;simp only[List.setIfInBounds_toArray,List.set_cons_succ,List.set_cons_zero,Tb.entV];gi_wp2_with fail;have k0:=GW.cell1 (S:=[]) hhH.out.cell hhH.out.lt (by simp);have k1:=GW.cells (S:=[]) hkh.out (by simp);have k2:=GW.cells (S:=[]) hrH.out (by simp);refine wpIn_region_stage (fun w'=>∃x:GW [] W,w'=x.1) (fun w'=>Mod [] W w') (by kernel_rfl) (by kernel_rfl) (by kernel_rfl) (fun _ h=>InGW.of h) (Mod.refl _ _).drew ?_;refine stage_quiet 8 (by kernel_rfl) ?_;simp only[tA,tB,tC,tD];(repeat go_big_quiet_step (fail));refine wpQuiet_nil ?_;refine stage_pure 125 #[.pointer (some ⟨a.hb,0,none⟩),.agg #[.int .u64 eh,.int .i64 eo,.int .i64 et,.int .i64 xo,.int .i64 xl]] (.int .i64 (memH s j).length) rfl Tryz.call125 rfl rfl (fun w' hm=>hsz.out _ hm) ?_;simp only[Act.put,sA,sB,sC];refine stage_call_any 124 #[.pointer (some ⟨a.ar,0,none⟩),.agg #[.int .i64 xo,.int .i64 xl],.int .i64 0,.int .i64 (memH s j).length] (fun v=>∃x y z,v=.tuple #[.slice x y z,.int .i64 0]) (fun v w'=>∃u,v=.tuple #[u,.int .i64 0]∧Mod [] W w'∧w'.ownsRow W.heap.size 5 1 u (memH s j).length (bvals (memH s j))) rfl Tryz.call124 rfl rfl ⟨_,none,0,0,rfl⟩ (fun w' hm=>(hrd.out w' hm).mono fun e w'' ⟨u,he,h1,h2⟩=>by
   obtain⟨x,y,z,rfl⟩:=row_form h1;exact⟨_,he,⟨x,y,z,rfl⟩,_,rfl,hm.nil_then h2,row_base h1 hm.size⟩) (fun v w' ⟨_,_,h,_⟩=>InGW.of h) (fun v hv=> ?_)
  obtain⟨ua,ul,uc,rfl⟩:=hv;simp only[Act.put,sA,sB,sC];refine stage_quiet 5 (by kernel_rfl) ?_;simp only[tA,tB,tC,tD];(repeat go_big_quiet_step (fail));refine wpQuiet_nil ?_;refine stage_nil fun w3 hw3=> ?_
  obtain⟨u,hu,hm3,hr3⟩:=hw3;cases hu;clear k0 k1 k2 hsz hrd;have hrow3:=row_mod hrowH.out hm3 (by simp);have hbx3:Boxed w3 (q+1) 53 v:=hm3.at hbxH.out (by simp);have hh3:=hm3.at hhH.out (by simp);have hk3:=hm3.at hkh.out (by simp);have hr33:=hm3.at hrH.out (by simp);have hby3:=row_base hr3 (show q≤W.heap.size by omega);have n1:=row_apart hrow3 hbx3 (by decide);have n0:=row_apart hrow3 hh3 (by decide);have n2:=row_apart hrow3 hk3 (by decide);have n3:=row_apart hrow3 hr33 (by decide);have hin3:=Lib.hid fun x hx=>(hinH.out x hx).mod hm3
  have hof3:=Lib.hid fun w' (hm:Mod [] w3 w')=>hof.out w' (hm3.nil_then hm)
  have hm3H:=Lib.hid hm3;have hrow3H:=Lib.hid hrow3;have hbx3H:=Lib.hid hbx3;have hby3H:=Lib.hid hby3;have hh3H:=Lib.hid hh3;have nH:=Lib.hid (And.intro n0 n1);have hsz3:=hm3.size
  gi_wp2_with fail
  have k0:=GW.cells (S:=v.ownBlock.toList) hbx3 n1;have k1:=GW.cells (S:=v.ownBlock.toList) hh3 n0;have k2:=GW.cells (S:=v.ownBlock.toList) hk3 n2;have k3:=GW.cells (S:=v.ownBlock.toList) hr33 n3;clear hm3 hrow3 hbx3 hby3 hh3 hk3 hr33 n0 n1 n2 n3 hr3 hof;refine wpIn_region_stage (fun w'=>∃x:GW v.ownBlock.toList w3,w'=x.1) (fun w'=>Mod [] w3 w') (by kernel_rfl) (by kernel_rfl) (by kernel_rfl) (fun _ h=>InGW.of (h.mono (by simp))) (Mod.refl _ _).drew ?_;refine stage_quiet 13 (by kernel_rfl) ?_;simp only[tA,tB,tC,tD];(repeat go_big_quiet_step (fail));refine wpQuiet_nil ?_;refine stage_call_any 126 #[.pointer (some ⟨a.lb,0,none⟩),.int .i64 j] (fun u=>∃x y z,u=.slice x y z) (fun u w'=>Mod [] w3 w'∧w'.ownsRow q 130 4 u (Bw.ofO s.L j).length (flat Bw.bcell (Bw.ofO s.L j))) rfl Tryz.call126 rfl rfl ⟨_,none,0,0,rfl⟩ (fun w' hm=>(hof3.out w' hm).mono fun e w'' ⟨u,he,h1,h2⟩=>by
   obtain⟨x,y,z,rfl⟩:=row_form h1;exact⟨_,he,⟨x,y,z,rfl⟩,hm.nil_then h2,row_base h1 (by have:=hm.size;omega)⟩) (fun v w' h=>InGW.of (h.1.mono (by simp))) (fun u hu=> ?_)
  obtain⟨wa,wl,wc,rfl⟩:=hu;simp only[Act.put,sA,sB,sC];refine stage_quiet 1 (by kernel_rfl) ?_;simp only[tA,tB,tC,tD];(repeat go_big_quiet_step (fail));refine wpQuiet_nil ?_;refine stage_alloc (fun s=>.slice (some ⟨s,0,none⟩) 1 1) (.cells #[.int .u64 eh,.int .i64 eo,.int .i64 xo,.int .i64 xl,.slice ua ul uc,.slice wa wl wc] 60 (0,0)) (fun sb w'=>(Mod [] w3 w'∧w'.ownsRow q 130 4 (.slice wa wl wc) (Bw.ofO s.L j).length (flat Bw.bcell (Bw.ofO s.L j)))∧w'.heap[sb]? =some (.cells #[.int .u64 eh,.int .i64 eo,.int .i64 xo,.int .i64 xl,.slice ua ul uc,.slice wa wl wc] 60 (0,0))) (by intro s s' h;simpa using h) rfl rfl (fun w' hw=> ?_) (fun w' hw=>⟨⟨hw.1.alloc _,hw.2.alloc _⟩,at_alloc _ _⟩) (fun s w' h=>InGW.of (h.1.1.mono (by simp))) (fun sb=> ?_)
  ·kernel_rfl
  simp only[Act.put,sA,sB,sC];refine stage_any (fun u=>∃g c,u=.slice (some ⟨g,0,none⟩) (X.length+1) c) (fun u w'=>Mod v.ownBlock.toList w3 w'∧w'.ownsRow q 60 6 u (X.length+1) (flat obCell X++[.int .u64 eh,.int .i64 eo,.int .i64 xo,.int .i64 xl,.slice ua ul uc,.slice wa wl wc])∧w'.ownsRow q 130 4 (.slice wa wl wc) (Bw.ofO s.L j).length (flat Bw.bcell (Bw.ofO s.L j))∧∀x,u.ownBlock=some x→v.ownBlock=some x∨w3.heap.size≤x) rfl rfl ⟨_,0,0,rfl⟩ (fun w' hw=> ?_) (fun u w' h=>InGW.of h.1) (fun u hu=> ?_)
  ·obtain⟨⟨g1,gb⟩,g2⟩:=hw;obtain⟨i0,hi0,hz0,hz1,hz2⟩:=info_parts info_ob;obtain⟨v',w4,hr,r2,r3,r4⟩:=run_append_row (P:=Tryz.prog) w' 53 53 60 i0 _ 6 80 Tryz.underlying53 hi0 hz0 hz1 hz2 rfl (by decide) v X.length (flat obCell X) (row_base (row_mod hrow3H.out g1 (by simp)) (Nat.zero_le _)) ⟨sb,0,none⟩ 1 1 [.int .u64 eh,.int .i64 eo,.int .i64 xo,.int .i64 xl,.slice ua ul uc,.slice wa wl wc] rfl (fun j u hj=>by rw[Ty.add_at,Nat.zero_add,cells_of g2];simpa using hj) (by simp[Value.oneCell']) (by unfold maxLen;omega) (by omega);obtain⟨g',cap',rfl,_,_⟩:=row_pos r2 (by omega);have hsz':=g1.size;have hown:∀x,(Value.slice (some ⟨g',0,none⟩) (X.length+1) cap').ownBlock=some x→v.ownBlock=some x∨w3.heap.size≤x:=fun x hx=>(r4 x hx).imp id fun h=>Nat.le_trans hsz' h
   refine⟨_,w4,Ty.exec_append _ _ 53 rfl rfl rfl hr,⟨g',cap',rfl⟩,(g1.mono (by simp)).grown r3 (fun k hk=>.inl (by simp[hk])),row_raise r2 (fun g hg=> ?_),Tb.row_same gb (fun g cs fr hg hcs=>(r3.block g (lt_of hcs) fun e=>row_other (row_mod hrow3H.out g1 (by simp)) gb (by decide) g hg (by rw[Option.mem_toList,e])).trans hcs),hown⟩;rcases hown g hg with h|h
   ·exact(hrow3H.out.lt g h).1
   ·omega
  obtain⟨ug,uc2,rfl⟩:=hu;simp only[Act.put,sA,sB,sC];refine stage_store (p:=⟨q+1,0,none⟩) (u:=.slice (some ⟨ug,0,none⟩) (X.length+1) uc2) (fun w'=>w'.setCell ⟨q+1,0,none⟩ (.slice (some ⟨ug,0,none⟩) (X.length+1) uc2)) rfl rfl (by kernel_rfl) rfl rfl rfl (fun w' hw=> ?_) (fun w' hw=> ?_)
  ·have hb8:Boxed w' (q+1) 53 v:=hw.1.at hbx3H.out nH.out.2;have c1:=cells_of hb8;have f1:=frozen_of hb8;clear k0 k1 k2 k3;go_simp
  ·clear k0 k1 k2 k3
   gi_wp2_with fail
   obtain⟨hmS,hrX,hrB,hown⟩:=hw;have hsz':=hmS.size;have hbx':Boxed w' (q+1) 53 v:=hmS.at hbx3H.out nH.out.2;have notS:∀ {k:Nat} {o:Obj},w3.heap[k]? =some o→(∀cs fr,o≠ .cells cs 60 fr)→k∉v.ownBlock.toList:=fun {k o} hk ho hx=>by
    rw[Option.mem_toList]at hx;rcases hrow3H.out.2 with⟨rfl,_⟩|⟨g,cap,cur,rfl,h2,h3,_⟩
    ·cases hx
    ·have:some g=some k:=hx;obtain rfl:=Option.some.inj this;rw[hk]at h3;cases h3;exact ho _ _ rfl
   have hko:KeepsOthers W w':=⟨Nat.le_trans hsz3 hsz',fun k o hk hnc=>by
    have h3:=hm3H.out.at hk (by simp);exact hmS.at h3 (notS h3 fun cs fr e=>by rw[e]at hnc;cases hnc)⟩
   have hvX:=hrow3H.out;have hmc:=(Mod.refl [q+1] w').setCell (p:=⟨q+1,0,none⟩) (.inl (by simp)) (.slice (some ⟨ug,0,none⟩) (X.length+1) uc2);have box:∀ {base e sz n:Nat} {u:Value} {ys:List Value},w'.ownsRow base e sz u n ys→53≠e→∀g,u.ownBlock=some g→g∉ [q+1]:=fun hr hT g hg hx=>by
    obtain rfl:=List.mem_singleton.1 hx;exact row_apart hr hbx' hT (by rw[Option.mem_toList];exact hg)
   refine⟨(hko.trans (KeepsOthers.setCell w' ⟨q+1,0,none⟩ _)).from _,⟨by simp only[World.size_setCell];omega,fun k cs T fr hk ha hck=>⟨?_,fun u hu=> ?_⟩⟩,⟨X++[(((j:Int),(⟨eh,eo,et,xo,xl⟩:Tb.Ent)),.slice ua ul uc,.slice wa wl wc)],.slice (some ⟨ug,0,none⟩) (X.length+1) uc2,?_,hbx'.set _,?_,fun x hx=> ?_⟩,?_,?_⟩
   ·have h3:=hm3H.out.at hck (by simp);have hkv:k∉v.ownBlock.toList:=fun hx=>ha v hbxH.out.cell (by rwa [Option.mem_toList]at hx)
    exact at_setCell_other (hmS.at h3 hkv) (by show k≠q+1;omega)
   ·rw[(hbx'.set _).cell]at hu;cases hu;intro e;rcases hown k e with h|h
    ·exact ha v hbxH.out.cell h
    ·have:=lt_of hck;omega
   ·rw[List.map_append,hXH.out];rfl
   ·have e:flat obCell (X++[(((j:Int),(⟨eh,eo,et,xo,xl⟩:Tb.Ent)),.slice ua ul uc,.slice wa wl wc)])=flat obCell X++[.int .u64 eh,.int .i64 eo,.int .i64 xo,.int .i64 xl,.slice ua ul uc,.slice wa wl wc]:=by
     rw[flat_append];simp[flat,obCell]
    rw[List.length_append,e];exact row_mod hrX hmc (box hrX (by decide))
   ·rcases List.mem_append.1 hx with hx|hx
    ·obtain⟨i1,i2⟩:=hin3.out x hx;have j1:=row_mod i1 hmS (row_other hvX i1 (by decide));have j2:=row_mod i2 hmS (row_other hvX i2 (by decide));exact⟨row_mod j1 hmc (box j1 (by decide)),row_mod j2 hmc (box j2 (by decide))⟩
    ·obtain rfl:=List.mem_singleton.1 hx;have j1:=row_mod hby3H.out hmS (row_other hvX hby3H.out (by decide));refine⟨?_,row_mod hrB hmc (box hrB (by decide))⟩;simp only[Int.toNat_natCast];exact row_mod j1 hmc (box j1 (by decide))
   ·exact at_setCell_other (hmS.at hh3H.out nH.out.1) (by show q≠q+1;omega)
   ·have hb3:RowKit.Below q w3 w':=⟨hmS.os,hmS.tape,hmS.output,hmS.size,fun k hk=>hmS.block k (by omega) fun hx=>by
     rw[Option.mem_toList]at hx;have:=(hvX.lt k hx).1;omega⟩
    exact hBH.out.trans ((hm3H.out.below.mono (by omega)).trans (hb3.trans ((RowKit.Below.refl q w').setCell (p:=⟨q+1,0,none⟩) (by show q≤q+1;omega) _)))
 case stop=>
  rintro D c pre W _ _ h _;exact h.elim
 case done=>
  rintro D ys W hD hys ⟨⟨X,v,hX,hbx,hrow,hin⟩,hh,hB⟩ hK;have c1:=hbx.cell;have hBH:=Lib.hid hB;have hKH:=Lib.hid hK;have hrowH:=Lib.hid hrow;have hinH:=Lib.hid hin;have hXH:=Lib.hid (hX.trans hys);have hbxl:=lt_of hbx;clear hst hX hbx hrow hin hh hB hK hT2 b0' b1' b3 b1b hm2 hys
  gi_wp2_with fail
  refine⟨by simp,.inl ⟨_,_,rfl,run_takeDeferred hKH.out,?_⟩⟩;have hB4:=hBH.out.trans (belowK_b'' (n:=q) (B:=q) (Nat.le_refl _) W D _ (.deferred none) (by omega) hKH.out rfl rfl);have keep:∀ {g:Nat} {cs:Array Value} {T:TypeId} {fr:Nat×Nat},W.heap[g]? =some (.cells cs T fr)→(W.putObj D (.deferred none)).heap[g]? =some (.cells cs T fr):=fun {g cs T fr} hg=>(World.putObj_heap_other (by intro e;subst e;rw[hKH.out]at hg;cases hg)).trans hg
  subst hq;refine⟨v,?_,X,v,rfl,hXH.out,Tb.row_same hrowH.out (fun g cs fr _ hg=>keep hg),fun x hx=>⟨Tb.row_same (hinH.out x hx).1 (fun g cs fr _ hg=>keep hg),Tb.row_same (hinH.out x hx).2 (fun g cs fr _ hg=>keep hg)⟩,Mod.of_below hB4⟩;simp[results,Tryz.results91,asAddr,go_sem]
end Go.Proofs.YteidpgdfocjdbaaGreat
namespace Go.Proofs.YteidpgdfocjdbaaGreat
open Go Go.RowKit Go.Stg
theorem live_tag {n:Nat} {first:Int} {x:Tb.TS} (hT:Tb.TInv n first x) (hf:1≤first) (hn:n≤4096) {j:Nat} (hj:j<n) (hl:(Tb.slotN x.g.S j).2=true):Tb.hTag (Tb.entN x.E j).h=(Tb.entN x.E j).tag:=by
 rw[(hT.ok j hj hl).2];refine Tb.hTag_pack ⟨by omega,by omega⟩ ?_;rcases hT.g.gens j hj with h|h
 ·rw[h]at hl;cases hl
 ·exact⟨by omega,h.2⟩
section
variable {c:HC} {k:Nat} {s:HS}
theorem issH_tag (hc:c.Ok) (hI:HInv c k s) {p:Int} (hp:s.st p=1) {tag:Int} (d:Int) (h:allocE c s p tag=0):Tb.hTag (Tb.issH c.first s.T p tag d)=tag:=by
 obtain⟨hok,hcm⟩:=inv_alloc hc hI (d:=d) hp h;obtain⟨hjn,hd,hl,he,hoth⟩:=iss_slot hI.tin hc.f1 hc.f2 (allocX c s tag).1 (allocX c s tag).2 d hok;have hT:(allocS c s p tag d).T=Tb.issT c.first s.T p tag (allocX c s tag).1 (allocX c s tag).2 d:=by unfold allocS;rw[if_pos h]
 have r:=live_tag hcm.inv.tin hc.f1 hc.n hjn (by rw[hT];exact hl);rw[hT,he]at r;unfold Tb.issH;rw[if_pos hok];exact r
theorem logA_R (e:Ev):(logA c s e).R=s.R:=by unfold logA;split<;>rfl
theorem allocS_R (p tag d:Int):(allocS c s p tag d).R=s.R:=by unfold allocS;split<;>rfl
theorem opAlloc_R (p tag d:Int):(opAlloc c s p tag d).2.R=s.R:=by
 unfold opAlloc act;split
 ·rfl
 split
 ·rfl
 ·exact(logA_R _).trans (allocS_R _ _ _)
theorem opAlloc_zero {p tag d:Int} (he:(opAlloc c s p tag d).1=0):s.st p=1∧allocE c s p tag=0:=by
 unfold opAlloc act at he;split at he
 ·cases he
 rename_i h1;split at he
 ·cases he
 ·exact⟨Classical.not_not.1 h1,he⟩
theorem alloc_said (hc:c.Ok) (hI:HInv c k s) {p tag d:Int} (he:(opAlloc c s p tag d).1=0) {x:Int×Tb.Ent} (hx:x∈Tb.liveP (opAlloc c s p tag d).2.T c.n) (hh:x.2.h=opAllocH c s p tag d):((memH (opAlloc c s p tag d).2 x.1.toNat).length:Int)=sizeTag s tag:=by
 obtain⟨hst,ha⟩:=opAlloc_zero he;have hI2:=inv_opAlloc hc hI p tag d;obtain⟨j,hj,rfl,hl⟩:=liveP_at hx;have ht:=live_tag hI2.tin hc.f1 hc.n hj hl;simp only at hh;rw[hh]at ht;unfold opAllocH at ht;rw[if_pos he]at ht;unfold allocH at ht;rw[if_pos ha,issH_tag hc hI hst d ha]at ht;have hm:=hI2.mem j hj hl;rw[←ht]at hm;rw[Int.toNat_natCast,hm];unfold sizeTag tyTag;rw[opAlloc_R]
theorem obs_sized (hc:c.Ok) (hI:HInv c k s) {p tag d:Int} (he:(opAlloc c s p tag d).1=0) {X:List ObX} (hX:X.map (·.1)=Tb.liveP (opAlloc c s p tag d).2.T c.n) {q:Nat} {W:World} (hin:∀x∈X,ObIn (opAlloc c s p tag d).2 q W x):∀x∈X,∃ba bl bc,x.2.1=.slice ba bl bc∧(x.1.2.h=opAllocH c s p tag d→(bl:Int)=sizeTag s tag):=by
 intro x hx;have hm:x.1∈Tb.liveP (opAlloc c s p tag d).2.T c.n:=by rw[←hX];exact List.mem_map_of_mem (f:=(·.1)) hx
 rcases(hin x hx).1.2 with⟨h1,h2⟩|⟨g,cap,cur,h1,_⟩
 ·refine⟨none,0,0,h1,fun hh=> ?_⟩;have:=alloc_said hc hI he hm hh;rw[h2]at this;exact this
 ·exact⟨_,_,_,h1,fun hh=>alloc_said hc hI he hm hh⟩
theorem logA_st (e:Ev):(logA c s e).st=s.st:=by unfold logA;split<;>rfl
theorem allocS_st (p tag d:Int):(allocS c s p tag d).st=s.st:=by unfold allocS;split<;>rfl
theorem opAlloc_st (p tag d:Int):(opAlloc c s p tag d).2.st=s.st:=by
 unfold opAlloc act;split
 ·rfl
 split
 ·rfl
 ·exact(logA_st _).trans (allocS_st _ _ _)
theorem startD_first {p:Int} (h1:1≤p) (h2:p≤64) (h:s.st p=0):(startD s p).1=0∧(startD s p).2.st p=1∧(startD s p).2.R=s.R:=by
 unfold startD;rw[if_neg (by omega),if_neg (by rw[h];simp)];refine⟨rfl,?_,rfl⟩;simp[setI]
theorem regN_len (R:List Ty.Ty) (t:Ty.Ty):(Ty.regN R t).length≤R.length+1:=by unfold Ty.regN;split<;>simp
theorem size_reg {R:List Ty.Ty} {j:Nat} (h:j<R.length):Ty.lookT R ((j:Int)+1)=R[j]:=by
 unfold Ty.lookT;rw[if_pos (by omega),show((j:Int)+1-1).toNat=j by omega];simp[List.getD_eq_getElem?_getD,List.getElem?_eq_getElem h]
end
theorem obs_cells {w:World} {b:Nat} {v:Value} {X:List ObX} (h:w.ownsRow b 60 6 v X.length (flat obCell X)) {k:Nat} (hk:k<X.length):∃g cap,v=.slice (some ⟨g,0,none⟩) X.length cap∧g<w.heap.size∧∀j,j<6→w.cell? ⟨g,k*6+j,none⟩=(obCell X[k])[j]? :=by
 rcases h.2 with⟨_,h0⟩|⟨g,cap,cur,rfl,h2,h3,_⟩
 ·omega
 ·exact⟨g,cap,rfl,lt_of h3,fun j hj=>by
   have r:=row_cell obCell_length h hk rfl (k:=j) hj;exact r⟩
end Go.Proofs.YteidpgdfocjdbaaGreat
