/- Joined contracts. No conditions. -/
import Derived.Test.YtapbeogoojejmaaGreatCS
import Derived.Test.YtapbeogoojejmaaGreatC04
import Derived.Test.YtapbeogoojejmaaGreatC07
import Derived.Test.YtapbeogoojejmaaGreatC08
import Derived.Test.YtapbeogoojejmaaGreatC16
import Derived.Test.YtapbeogoojejmaaGreatC20
import Derived.Test.YtapbeogoojejmaaGreatC22
import Derived.Test.YtapbeogoojejmaaGreatC25
import Derived.Test.YtapbeogoojejmaaGreatC28
import Derived.Test.YtapbeogoojejmaaGreatC29
set_option maxHeartbeats 4000000
set_option maxRecDepth 20000
namespace Go.Proofs.YtapbeogoojejmaaGreat
open Go Go.RowKit Go.Stg
def StAt (w:World) (sm:Nat) (st:Int→Int):Prop:=∃es c,w.heap[sm]? =some (.map es c)∧IKeys es.toList∧∀k,mget k es.toList=if st k=0 then none else some (.bool (decide (st k=1)))
theorem StAt.mod {S:List Nat} {w w':World} {sm:Nat} {st:Int→Int} (h:StAt w sm st) (hm:Mod S w w') (hS:sm∉S):StAt w' sm st:=
 let ⟨es,c,h1,h2,h3⟩:=h;⟨es,c,hm.at h1 hS,h2,h3⟩
def stC (sm:Nat) (st:Int→Int):Comp:=
 ⟨fun w f=>StAt w sm st∧f=[sm],fun h hm hT=>⟨h.1.mod hm (hT sm (by rw[h.2];simp)),h.2⟩,fun h x hx=>by
  rw[h.2,List.mem_singleton]at hx;subst hx;obtain⟨_,_,h1,_⟩:=h.1;exact lt_of h1⟩
theorem StAt.look {w:World} {sm:Nat} {st:Int→Int} (h:StAt w sm st) (k:Int):(Instr.lookup 38 (.map (some sm)) (.int .i64 k) false).run Tryz.prog w=.ok (.bool (decide (st k=1))) w:=by
 obtain⟨es,c,h1,h2,h3⟩:=h;rw[run_lookup_int Tryz.underlying38 Tryz.underlying3 Tryz.zeroValue4 h1 h2,h3];by_cases e:st k=0
 ·rw[if_pos e,e];rfl
 ·rw[if_neg e];rfl
theorem StAt.look2 {w:World} {sm:Nat} {st:Int→Int} (h:StAt w sm st) (k:Int):(Instr.lookup 38 (.map (some sm)) (.int .i64 k) true).run Tryz.prog w=.ok (.tuple #[.bool (decide (st k=1)),.bool (decide (st k≠0))]) w:=by
 obtain⟨es,c,h1,h2,h3⟩:=h;rw[run_lookup_int2 Tryz.underlying38 Tryz.underlying3 Tryz.zeroValue4 h1 h2,h3];by_cases e:st k=0
 ·rw[if_pos e,e];rfl
 ·rw[if_neg e];simp[e]
theorem StAt.put {w:World} {sm:Nat} {st:Int→Int} (h:StAt w sm st) (p:Int) (b:Bool):∃w',(Instr.mapUpdate 38 (.map (some sm)) (.int .i64 p) (.bool b)).run Tryz.prog w=.ok () w'∧StAt w' sm (setI st p (if b=true then 1 else 2))∧Mod [sm] w w':=by
 obtain⟨es,c,h1,h2,h3⟩:=h;obtain⟨k1,k2⟩:=mput_spec p (.bool b) c es h2;refine⟨_,run_update_int (P:=Tryz.prog) Tryz.underlying38 Tryz.underlying3 h1 h2 p (.bool b),⟨_,_,at_setMap h1,k1,fun k=> ?_⟩,(Mod.refl [sm] w).setMap (.inl (by simp)) _⟩;rw[k2];unfold setI;by_cases e:k=p
 ·subst e;cases b<;>simp
 ·rw[if_neg e,if_neg e];exact h3 k
theorem StAt.congr {w:World} {sm:Nat} {st st':Int→Int} (h:StAt w sm st) (e:∀k,st k=st' k):StAt w sm st':=by
 obtain rfl:st=st':=funext e;exact h
theorem scene_st {F:List Nat} {W w:World} {cs:List Comp} (i:Nat) {sm:Nat} {st:Int→Int} (h:Scene F W cs w) (hi:cs[i]? =some (stC sm st)):StAt w sm st:=
 let ⟨_,h1,_⟩:=h.part i hi;h1.1
def meterC (b:Nat) (l:Qt.Q) (f:Int→Qt.Q):Comp:=
 ⟨fun w fp=>∃mo,Qt.MeterAt w b mo l f∧fp=b::mo.toList,fun⟨mo,h,e⟩ hm hT=>⟨mo,h.mod hm fun x hx=>hT x (by rw[e];exact hx),e⟩,fun⟨mo,h,e⟩ x hx=>by
  rw[e]at hx;rcases List.mem_cons.1 hx with rfl|hx
  ·exact lt_of h.blk
  ·rw[Option.mem_toList]at hx;exact h.map.lt x hx⟩
structure HA where
 hb:Nat
 ar:Nat
 rt:Nat
 tb:Nat
 lb:Nat
 mb:Nat
 gb:Nat
 sm:Nat
 ev:Value
 b:Nat
 pb:Nat
 sl:Value
def hpB (a:HA):Obj:=.cells #[.pointer (some ⟨a.ar,0,none⟩),.pointer (some ⟨a.rt,0,none⟩),.pointer (some ⟨a.tb,0,none⟩),.pointer (some ⟨a.lb,0,none⟩),.pointer (some ⟨a.mb,0,none⟩),.pointer (some ⟨a.gb,0,none⟩),.map (some a.sm)] 40 (0,0)
def hpP (a:HA) (c:HC) (R:List Ty.Ty) (T:Tb.TS) (L:List Bw.Bor) (evs:List Ev) (miss:List Int) (st:Int→Int) (u:List Ext) (B:List Int) (fm:Int→Qt.Q):List Comp:=
 [blockC a.hb (hpB a),arC a.ar c.size u B,Ty.regC 170 a.rt R,Tb.tabC a.tb a.ev a.b a.pb a.sl c.first T,Bw.ledC a.lb L,meterC a.mb c.lim fm,logC a.gb c.cap evs miss,stC a.sm st]
def hpOn (a:HA) (c:HC) (s:HS) (w:World) (f:List Nat):Prop:=∃B,ArIs c.size (obs c s) B∧Hold (hpP a c s.R s.T s.L s.evs s.miss s.st (usedH c s) B (hasH c s)) w f
def hpA (a:HA) (c:HC) (s:HS):Comp:=⟨hpOn a c s,fun⟨B,h1,h2⟩ hm hT=>⟨B,h1,h2.keep hm hT⟩,fun⟨_,_,h⟩=>h.lt⟩
section
variable {F:List Nat} {W w:World} {cs:List Comp} {a:HA} {c:HC} {s:HS}
theorem hp_open (h:Scene F W (hpA a c s::cs) w):∃B,ArIs c.size (obs c s) B∧Scene F W (hpP a c s.R s.T s.L s.evs s.miss s.st (usedH c s) B (hasH c s)++cs) w:=by
 obtain⟨h1,fp,⟨f,g,⟨B,hB,hf⟩,hg,hd,rfl⟩,h2⟩:=h;exact⟨B,hB,h1,f++g,hf.append hg hd,h2⟩
theorem hp_shut {B:List Int} (hB:ArIs c.size (obs c s) B) (h:Scene F W (hpP a c s.R s.T s.L s.evs s.miss s.st (usedH c s) B (hasH c s)++cs) w):Scene F W (hpA a c s::cs) w:=
 Scene.shut1 (c:=hpA a c s) _ h fun _ hg=>⟨B,hB,hg⟩
end
section
variable {w:World} {a:HA} (hb:w.heap[a.hb]? =some (hpB a))
include hb
theorem works_ok:Calls Tryz.prog 38 #[.pointer (some ⟨a.hb,0,none⟩)] w fun e w'=>e=.returned (.bool true)∧Mod [] w w':=by
 have hc:=cells_of hb;have hnil:∀w,(binOp .neq 38 (.map (some a.sm)) (.map none)).run Tryz.prog w=.ok (.bool true) w:=fun w=>run_neq_map_nil w _ _ _ (some a.sm) Tryz.underlying38
 clear hb;go_enter Tryz.func38,Tryz.ntmps38;go_wp2_with fail;go_ret;exact⟨rfl,Mod.refl _ _⟩
theorem alive_ok {st:Int→Int} (hs:StAt w a.sm st) (p:Int):Calls Tryz.prog 13 #[.pointer (some ⟨a.hb,0,none⟩),.int .i64 p] w fun e w'=>e=.returned (.bool (decide (st p=1)))∧Mod [] w w':=by
 have hbH:=Lib.hid hb;have hsH:=Lib.hid hs;have hwk:=Lib.hid (works_ok hb);clear hb hs;go_enter Tryz.func13,Tryz.ntmps13;go_wp2_with fail;refine hwk.out.mono ?_;rintro e w1 ⟨rfl,hm⟩;have hc:=cells_of (hm.at hbH.out (by simp));have hlk:=(hsH.out.mod hm (by simp)).look p;have hmH:=Lib.hid hm;clear hm hwk hbH;go_wp2_with fail;go_ret;exact⟨rfl,hmH.out⟩
theorem other_ok {s:HS} (hs:StAt w a.sm s.st) (p q:Int):Calls Tryz.prog 75 #[.pointer (some ⟨a.hb,0,none⟩),.int .i64 p,.int .i64 q] w fun e w'=>e=.returned (.int .i64 (otherE s p q))∧Mod [] w w':=by
 have hal:=Lib.hid (alive_ok hb hs q);clear hb hs;unfold otherE;by_cases e:q=p
 ·have e1:(q==p)=true:=by simp[e]
  rw[if_pos (.inl e)];go_enter Tryz.func75,Tryz.ntmps75;go_wp2_with fail;go_ret;exact⟨rfl,Mod.refl _ _⟩
 ·have e1:(q==p)=false:=by simp[e]
  obtain⟨b,hbb⟩:∃b,decide (s.st q=1)=b:=⟨_,rfl⟩;rw[hbb]at hal;have e2:(q=p∨s.st q≠1)↔b=false:=by rw[←hbb];simp[e]
  simp only[e2];clear e2 hbb e
  cases b with
  |true=>
   rw[if_neg (by simp)];go_enter Tryz.func75,Tryz.ntmps75;go_wp2_with fail;refine hal.out.mono ?_;rintro e w1 ⟨rfl,hm⟩;have hmH:=Lib.hid hm;clear hm hal;go_wp2_with fail;go_ret;exact⟨rfl,hmH.out⟩
  |false=>
   rw[if_pos rfl];go_enter Tryz.func75,Tryz.ntmps75;go_wp2_with fail;refine hal.out.mono ?_;rintro e w1 ⟨rfl,hm⟩;have hmH:=Lib.hid hm;clear hm hal;go_wp2_with fail;go_ret;exact⟨rfl,hmH.out⟩
end
theorem inrange_ok (n l m:Int) (w:World):Calls Tryz.prog 65 #[.int .i64 n,.int .i64 l,.int .i64 m] w fun e w'=>e=.returned (.bool (decide (l≤n)&&decide (n≤m)))∧Mod [] w w':=by
 by_cases h:l≤n
 ·have e1:decide (n≥l)=true:=by simp[h]
  rw[show decide (l≤n)=true by simp[h],Bool.true_and];go_enter Tryz.func65,Tryz.ntmps65;go_wp2_with fail;go_ret;exact⟨rfl,Mod.refl _ _⟩
 ·have e1:decide (n≥l)=false:=by simp;omega
  rw[show decide (l≤n)=false by simp;omega,Bool.false_and];go_enter Tryz.func65,Tryz.ntmps65;go_wp2_with fail;go_ret;exact⟨rfl,Mod.refl _ _⟩
end Go.Proofs.YtapbeogoojejmaaGreat
namespace Go
namespace Stg
section
variable {P:Program}
theorem wp_region_part {id:Nat} {Q:Exit→Act→World→Prop} {a:Act} (fa:List Nat) {W:World} {l:List Oper} (hm:P.follows .mixedOrders=true) (hB:stageB .any l.toArray=true)
  (h:wpStage P l.toArray (fun w'=>∃x:GW fa W,w'=x.1) (LetsOut Q) (fun a' w'=>Q .normal a' w') l (fun w'=>Mod [] W w') a):(Code.region id l.toArray true).wp P Q a W:=
 wp_region_stage (fun w'=>∃x:GW fa W,w'=x.1) (fun w'=>Mod [] W w') hm hB (fun _ h=>InGW.of (h.mono (by simp))) (Mod.refl _ _).drew h
def Took (c':Comp) (fa:List Nat) (W w':World):Prop:=Mod fa W w'∧∃f',c'.on w' f'∧∀x∈f',x∈fa∨W.heap.size≤x
end
section
variable {P:Program} {ops:Array Oper} {Out:Prop} {Q:Act→World→Prop}
theorem stage_look {fa:List Nat} {W:World} (f:FuncId) (args:Array Value) (v:Value) {o:Oper} {rest:List Oper} {a:Act} {asx:Array Operand} {ts:Array TypeId}
  (hop:o.op=.call ⟨.value (.func f),asx,ts⟩) (hcall:∀(args:Array Value) w,(callFunc f args).run P w=.ok (.enter f args) w)
  (hw:Region.wanted o (yielded ops a.tmps)=true) (hargs:(asx.toList.map a.eval).toArray=args)
  (hc:∀w,Mod [] W w→Calls P f args w fun e w'=>e=.returned v∧Mod [] w w')
  (h:wpStage P ops (fun w'=>∃x:GW fa W,w'=x.1) Out Q rest (fun w'=>Mod [] W w') (a.put o.dst v)):
  wpStage P ops (fun w'=>∃x:GW fa W,w'=x.1) Out Q (o::rest) (fun w'=>Mod [] W w') a:=
 stage_go f args v (fun w'=>Mod [] W w') hop hcall hw hargs (fun w hm=>(hc w hm).mono fun _ _ ⟨he,k⟩=>⟨he,hm.nil_then k⟩) (fun _ h=>InGW.of (h.mono (by simp))) h
theorem stage_takes {fa:List Nat} {W:World} {c':Comp} (f:FuncId) (args:Array Value) (v:Value) {o:Oper} {rest:List Oper} {a:Act} {asx:Array Operand} {ts:Array TypeId}
  (hop:o.op=.call ⟨.value (.func f),asx,ts⟩) (hcall:∀(args:Array Value) w,(callFunc f args).run P w=.ok (.enter f args) w)
  (hw:Region.wanted o (yielded ops a.tmps)=true) (hargs:(asx.toList.map a.eval).toArray=args)
  (hc:∀w,Mod [] W w→Calls P f args w (Takes c' v w fa))
  (h:wpStage P ops (fun w'=>∃x:GW fa W,w'=x.1) Out Q rest (fun w'=>Took c' fa W w') (a.put o.dst v)):
  wpStage P ops (fun w'=>∃x:GW fa W,w'=x.1) Out Q (o::rest) (fun w'=>Mod [] W w') a:=
 stage_go f args v (fun w'=>Took c' fa W w') hop hcall hw hargs (fun w hm=>(hc w hm).mono fun _ _ ⟨f',he,k1,k2,k3⟩=>⟨he,(hm.mono (by simp)).trans k2,f',k1,fun x hx=>(k3 x hx).imp id fun h=>Nat.le_trans hm.size h⟩) (fun _ h=>InGW.of h.1) h
end
section
variable {P:Program} {ops:Array Oper} {I:World→Prop} {Out:Prop} {Q:Act→World→Prop}
theorem stage_set {o:Oper} {rest:List Oper} {C:World→Prop} {a:Act} {t:TypeId} {x y:Operand} {p:Addr} {u:Value} (f:World→World) (C':World→Prop) (hop:o.op=.store t x y) (hd:o.dst=none) (hw:Region.wanted o (yielded ops a.tmps)=true)
  (hx:a.eval x=.pointer (some p)) (hy:a.eval y=u) (hrun:∀w,C w→(Instr.storeAt t (.pointer (some p)) u).run P w=.ok () (f w)) (hC:∀w,C w→C' (f w)) (hI:∀w,C' w→I w) (h:wpStage P ops I Out Q rest C' a):
  wpStage P ops I Out Q (o::rest) C a:=by
 unfold wpStage;have he:eff o=true:=by simp[eff,hop]
 simp only[hw,he,if_true];refine⟨fun v=>v=undef,fun v w'=>v=undef∧C' w',⟨undef,rfl⟩,fun w hc=> ?_,fun v w hv=>⟨hv.1,.inr (hI w hv.2)⟩,fun v hv=> ?_⟩
 ·unfold gives;have hr:(execOp a.eval o).run P w=.ok .skip (f w):=by simp[execOp,hop,hx,hy,hrun w hc]
  rw[hr];exact⟨rfl,hC w hc⟩
 ·subst hv;have e:(fun(v:Value) w'=>v=undef∧C' w') undef=C':=by funext w';simp
  rw[e,hd];exact h
theorem wpStage_imp:∀ {l:List Oper} {C C':World→Prop} {a:Act},(∀w,C w→C' w)→wpStage P ops I Out Q l C' a→wpStage P ops I Out Q l C a
 | [],_,_,_,hC,h=>by
  unfold wpStage at*;exact fun w hw=>h w (hC w hw)
 |o::l,C,C',a,hC,h=>by
  unfold wpStage at*;split
  ·rename_i hw;simp only[hw,if_true]at h;split
   ·rename_i he;simp only[he,if_true]at h;obtain⟨V,R,h1,h2,h3,h4⟩:=h;exact⟨V,R,h1,fun w hw=>h2 w (hC w hw),h3,h4⟩
   ·rename_i he;simp only[he,if_false,Bool.false_eq_true]at h;obtain⟨v,h1,h2⟩:=h;exact⟨v,h1,wpStage_imp hC h2⟩
  ·rename_i hw;simp only[hw,if_false,Bool.false_eq_true]at h;exact wpStage_imp hC h
theorem stage_imp {l:List Oper} {C:World→Prop} {a:Act} (C':World→Prop) (hC:∀w,C w→C' w) (h:wpStage P ops I Out Q l C' a):wpStage P ops I Out Q l C a:=wpStage_imp hC h
end
theorem wp_got {P:Program} {c:Code} {Q:Exit→Act→World→Prop} {a:Act} {w:World} (W0:World) (o:Obj) (FR:Nat→Act)
  (h:c.wp P (fun e a' w'=>e=.normal∧∃p,a'=FR p∧Mod [] W0 w'∧W0.heap.size≤p∧w'.heap[p]? =some o) a w) (hk:∀p w',Mod [] W0 w'→W0.heap.size≤p→w'.heap[p]? =some o→Q .normal (FR p) w'):c.wp P Q a w:=
 wp_mono h (by rintro e a' w' ⟨rfl,p,rfl,h1,h2,h3⟩;exact hk p w' h1 h2 h3)
theorem at_setCells {b:Nat} {T:TypeId} {fr:Nat×Nat}:∀(vs:List Value) (o:Nat) (w:World) (zs:Array Value),w.heap[b]? =some (.cells zs T fr)→(w.setCells b o vs).heap[b]? =some (.cells (splice zs.toList o vs).toArray T fr)
 | [],_,_,zs,h=>by rw[World.setCells,splice,Array.toArray_toList];exact h
 |v::r,o,w,zs,h=>by
  rw[World.setCells,splice];have:=at_setCells r (o+1) _ _ (at_setCell (o:=o) (v:=v) h);rw[Array.toList_setIfInBounds]at this;exact this
theorem laid_all {w:World} {b:Nat} {T:TypeId} {fr:Nat×Nat} {zs cs:Array Value} (h:w.heap[b]? =some (.cells zs T fr)) (hs:zs.size=cs.size):(w.setCells b 0 cs.toList).heap[b]? =some (.cells cs T fr):=by
 rw[at_setCells cs.toList 0 w zs h];congr 2;apply Array.ext';simp only;apply List.ext_getElem?;intro i;rw[splice_at];by_cases c:i<zs.size
 ·rw[if_pos (by simp;omega)];simp
 ·rw[if_neg (by simp;omega),List.getElem?_eq_none (by simp;omega),List.getElem?_eq_none (by simp;omega)]
theorem there_all {w:World} {b:Nat} {T:TypeId} {zs:Array Value} {n:Nat} (h:w.heap[b]? =some (.cells zs T (0,0))) (hn:n=zs.size):w.there b 0 n:=fun j hj=>by
 rw[cells_of h,frozen_of h,Nat.zero_add];exact⟨by simp;omega,rfl⟩
theorem Scene.behind {F:List Nat} {W w:World} {c:Comp} {ds cs:List Comp} (h:Scene F W (c::(ds++cs)) w):Scene F W (ds++c::cs) w:=by
 obtain⟨hm,fp,⟨f,g,h1,h2,h3,rfl⟩,h4⟩:=h;obtain⟨f1,g1,k1,k2,k3,rfl⟩:=h2.parted;refine⟨hm,f1++(f++g1),Hold.append k1 ⟨f,g1,h1,k2,fun x hx hxg=>h3 x hx (List.mem_append_right _ hxg),rfl⟩ fun x hx hxg=> ?_,fun x hx=>h4 x ?_⟩
 ·rcases List.mem_append.1 hxg with h|h
  ·exact h3 x h (List.mem_append_left _ hx)
  ·exact k3 x hx h
 ·simp only[List.mem_append]at hx⊢;rcases hx with h|h|h
  ·exact .inr (.inl h)
  ·exact .inl h
  ·exact .inr (.inr h)
theorem Scene.takePart {F:List Nat} {W w:World} {cs:List Comp} (i:Nat) {c:Comp} (h:Scene F W cs w) (hi:cs[i]? =some c):
  ∃fa:List Nat,(∀w',Mod [] w w'→c.on w' fa)∧(∀(w':World) (c':Comp),Took c' fa w w'→Scene F W (cs.set i c') w')∧∀(j b:Nat) (o:Obj),(cs.eraseIdx i)[j]? =some (blockC b o)→b∉fa:=by
 obtain⟨fa,h1,h2,h3⟩:=h.partB i hi;exact⟨fa,fun w' hm=>Comp.keep c h1 hm (by simp),fun w' c' ⟨k1,f',k2,k3⟩=>h2 w' f' c' k2 k1 k3,h3⟩
end Stg
end Go
namespace Go.Proofs.YtapbeogoojejmaaGreat
open Go Go.RowKit Go.Stg
open Ty (FieldsAt)
theorem FieldsAt.laid {w:World} {v:Value} {fs:List Ty.Fld} {p:Nat} {x:Value} {m:Option Addr} {n k:Nat} (h:FieldsAt w v fs) (hp:w.heap[p]? =some (.cells #[x,.slice m n k] 27 (0,0))) (u0 u1:Value):
  FieldsAt ((w.setCell ⟨p,0,none⟩ u0).setCell ⟨p,1,none⟩ u1) v fs:=by
 rcases h with h|⟨sb,so,cap,rfl,h2,h3,h4⟩
 ·exact .inl h
 ·refine .inr ⟨sb,so,cap,rfl,by simpa using h2,h3,fun i hi=> ?_⟩;by_cases e:sb=p
  ·exfalso;subst e;obtain⟨q1,q2⟩:=h4 i hi;rw[cells_of hp]at q1 q2;obtain⟨z,hz⟩:∃z,so+i*2=z:=⟨_,rfl⟩;rw[hz]at q1 q2
   match z,q1,q2 with
   |0,q1,q2=>simp at q2
   |1,q1,q2=>simp at q1
   |z+2,q1,q2=>simp at q1
  ·have hm:=((Mod.refl [p] w).setCell (p:=⟨p,0,none⟩) (.inl (by simp)) u0).setCell (p:=⟨p,1,none⟩) (.inl (by simp)) u1;rw[Ty.cell_mod hm h2 (by simpa using e),Ty.cell_mod hm h2 (by simpa using e)];exact h4 i hi
def Typed (W:World) (p:Nat) (t:Ty.Ty) (v:Value) (w:World):Prop:=Mod [] W w∧W.heap.size≤p∧w.heap[p]? =some (.cells #[.int .i64 t.1,v] 27 (0,0))∧FieldsAt w v t.2
theorem Typed.set {W w:World} {p:Nat} {t:Ty.Ty} {v:Value} (hm:Mod [] W w) (hp:W.heap.size≤p) (hb:w.heap[p]? =some (.cells #[.int .i64 0,.slice none 0 0] 27 (0,0))) (hf:FieldsAt w v t.2):
  Typed W p t v ((w.setCell ⟨p,0,none⟩ (.int .i64 t.1)).setCell ⟨p,1,none⟩ v):=
 ⟨(hm.setCell (p:=⟨p,0,none⟩) (.inr hp) _).setCell (p:=⟨p,1,none⟩) (.inr hp) _,hp,by simpa using at_setCell (o:=1) (v:=v) (at_setCell (o:=0) (v:=.int .i64 t.1) hb),FieldsAt.laid hf hb _ _⟩
theorem typeof_ok {a:HA} {R:List Ty.Ty} {w:World} {f:List Nat} (hb:w.heap[a.hb]? =some (hpB a)) (hr:(Ty.regC 170 a.rt R).on w f) (x:Tb.Ent):
  Calls Tryz.prog 119 #[.pointer (some ⟨a.hb,0,none⟩),Tb.entV x] w fun e w'=>∃v,e=.returned (.agg #[.int .i64 (Ty.lookT R x.tag).1,v])∧FieldsAt w' v (Ty.lookT R x.tag).2∧Mod [] w w':=by
 obtain⟨h,owner,tag,off,len⟩:=x;simp only[Tb.entV];have hm0:=Lib.hid (((Mod.refl [] w).alloc (.cells #[.int .u64 h,.int .i64 owner,.int .i64 tag,.int .i64 off,.int .i64 len] 110)).alloc (.cells #[.int .i64 0,.slice none 0 0] 27));have hlk0:=Lib.hid fun w' (hm:Mod [] w w')=>Ty.lookup_ok (Comp.keep (Ty.regC 170 a.rt R) hr hm (by simp)) tag
 have hb0:=Lib.hid (hm0.out.at hb (by simp));have hx0:=Lib.hid (at_alloc_old (o:=.cells #[.int .i64 0,.slice none 0 0] 27) (at_alloc w (.cells #[.int .u64 h,.int .i64 owner,.int .i64 tag,.int .i64 off,.int .i64 len] 110)));have hy0:=at_alloc (w.alloc (.cells #[.int .u64 h,.int .i64 owner,.int .i64 tag,.int .i64 off,.int .i64 len] 110)) (.cells #[.int .i64 0,.slice none 0 0] 27);rw[show(w.alloc (.cells #[.int .u64 h,.int .i64 owner,.int .i64 tag,.int .i64 off,.int .i64 len] 110)).heap.size=w.heap.size+1 by simp]at hy0;have hy0:=Lib.hid hy0;clear hb hr;go_enter Tryz.func119,Tryz.ntmps119;go_wp2_with fail;generalize hW0:(w.alloc (.cells #[.int .u64 h,.int .i64 owner,.int .i64 tag,.int .i64 off,.int .i64 len] 110)).alloc (.cells #[.int .i64 0,.slice none 0 0] 27)=W0 at*;have hlk:=Lib.hid fun w' (hm:Mod [] W0 w')=>hlk0.out w' (hm0.out.nil_then hm)
 have k1:=GW.cells (S:=[]) hb0.out (by simp);have k2:=GW.cells (S:=[]) hx0.out (by simp);refine wp_region_float 10 _ (fun w'=>∃x:GW [] W0,w'=x.1) (fun w'=>Mod [] W0 w') (by kernel_rfl) rfl rfl (by kernel_rfl) (by kernel_rfl) (fun _ h=>InGW.of h) (Mod.refl _ _).drew ?_;dsimp only[List.getElem_toArray,List.getElem_cons_succ,List.getElem_cons_zero];refine float_quiet 6 (by kernel_rfl) (by decide) ?_;simp only[tA,tB,tC,tD,Nat.reduceAdd];(repeat go_big_quiet_step (fail));refine wpQuiet_nil ?_;refine float_eff (by decide) rfl rfl ?A rfl (by simp) ?B
 case A=>
  refine Tb.eff_call_any 43 #[.pointer (some ⟨a.rt,0,none⟩),.int .i64 tag] (fun v=>∃m n k,v=.tuple #[.agg #[.int .i64 (Ty.lookT R tag).1,.slice m n k],.int .i64 (Ty.lookE R tag)]) (fun v w'=>Mod [] W0 w'∧∃u,v=.tuple #[.agg #[.int .i64 (Ty.lookT R tag).1,u],.int .i64 (Ty.lookE R tag)]∧FieldsAt w' u (Ty.lookT R tag).2) rfl Tryz.call43 rfl ⟨_,none,0,0,rfl⟩ (fun w' hw=> ?_) (fun v w' h=>InGW.of h.1) (fun v hv=> ?_)
  ·refine(hlk.out w' hw).mono ?_;rintro e w'' ⟨u,rfl,h1,h2⟩;obtain⟨um,un,uc,rfl⟩:=Ty.FieldsAt.slice h1;exact⟨_,rfl,⟨_,_,_,rfl⟩,hw.nil_then h2,_,rfl,h1⟩
  obtain⟨vm,vn,vc,rfl⟩:=hv;simp only[Act.put,sA,sB,sC];refine float_quiet 3 (by kernel_rfl) (by decide) ?_;simp only[tA,tB,tC,tD,Nat.reduceAdd];(repeat go_big_quiet_step (fail));refine wpQuiet_nil ?_;refine float_here ?_;refine stage_alloc (fun p=>.pointer (some ⟨p,0,none⟩)) (.cells #[.int .i64 0,.slice none 0 0] 27 (0,0)) (fun p w'=>Mod [] W0 w'∧W0.heap.size≤p∧w'.heap[p]? =some (.cells #[.int .i64 0,.slice none 0 0] 27 (0,0))∧FieldsAt w' (.slice vm vn vc) (Ty.lookT R tag).2) (by intro s s' h;simpa using h) rfl rfl (fun w' hw=> ?_) (fun w' hw=> ?_) (fun p w' h=>InGW.of h.1) (fun p=> ?_)
  ·kernel_rfl
  ·obtain⟨h1,u,hu,h2⟩:=hw;obtain rfl:u=.slice vm vn vc:=by simpa using hu.symm
   exact⟨h1.alloc _,h1.size,at_alloc _ _,h2.mod ((Mod.refl [] _).alloc _)⟩
  simp only[Act.put,sA,sB,sC];refine stage_set (p:=⟨p,0,none⟩) (u:=.agg #[.int .i64 (Ty.lookT R tag).1,.slice vm vn vc]) (fun w'=>(w'.setCell ⟨p,0,none⟩ (.int .i64 (Ty.lookT R tag).1)).setCell ⟨p,1,none⟩ (.slice vm vn vc)) (Typed W0 p (Ty.lookT R tag) (.slice vm vn vc)) rfl rfl rfl rfl rfl (fun w' hw=> ?_) (fun w' hw=>Typed.set hw.1 hw.2.1 hw.2.2.1 hw.2.2.2) (fun w' h=>InGW.of h.1) ?_
  ·have d1:=cells_of hw.2.2.1;have d2:=frozen_of hw.2.2.1;clear k1 k2 hw;go_simp
  refine stage_quiet 1 (by kernel_rfl) ?_;simp only[tA,tB,tC,tD];(repeat go_big_quiet_step (fail));refine wpQuiet_nil ?_;refine stage_nil fun w1 hw1=> ?_
  obtain⟨hm1,hp,hbp,hf⟩:=hw1;have hm1H:=Lib.hid (hm0.out.nil_then hm1);have hp1:=Lib.hid hbp;have hf1:=Lib.hid hf;have hy1:=Lib.hid (hm1.at hy0.out (by simp));have c1:=cells_of hbp;have c2:=cells_of (hm1.at hy0.out (by simp));have f2:=frozen_of (hm1.at hy0.out (by simp));clear k1 k2 hm1 hbp hf hp hlk hlk0 hb0 hx0 hy0 hm0;go_wp2_with fail;have u1:=at_setCell (o:=1) (v:=.slice vm vn vc) (at_setCell (o:=0) (v:=.int .i64 (Ty.lookT R tag).1) hy1.out);refine bodyPost_ret (results_cell_row Tryz.results119 _ _ (w.heap.size+1) 27 _ _ _ rfl u1 Tryz.underlying27 rfl (by kernel_rfl)) rfl ?_;refine⟨.slice vm vn vc,rfl,FieldsAt.laid hf1.out hy1.out _ _,?_⟩;exact(hm1H.out.setCell (p:=⟨w.heap.size+1,0,none⟩) (.inr (by simp)) _).setCell (p:=⟨w.heap.size+1,1,none⟩) (.inr (by simp)) _
 case B=>
  simp only[Nat.reduceSub,List.eraseIdx_cons_succ,List.eraseIdx_cons_zero];refine stage_alloc (fun p=>.pointer (some ⟨p,0,none⟩)) (.cells #[.int .i64 0,.slice none 0 0] 27 (0,0)) (fun p w'=>Mod [] W0 w'∧W0.heap.size≤p∧w'.heap[p]? =some (.cells #[.int .i64 0,.slice none 0 0] 27 (0,0))) (by intro s s' h;simpa using h) rfl rfl (fun w' hw=> ?_) (fun w' hw=>⟨hw.alloc _,hw.size,at_alloc _ _⟩) (fun p w' h=>InGW.of h.1) (fun p=> ?_)
  ·kernel_rfl
  simp only[Act.put,sA,sB,sC];refine stage_call_any 43 #[.pointer (some ⟨a.rt,0,none⟩),.int .i64 tag] (fun v=>∃m n k,v=.tuple #[.agg #[.int .i64 (Ty.lookT R tag).1,.slice m n k],.int .i64 (Ty.lookE R tag)]) (fun v w'=>Mod [] W0 w'∧W0.heap.size≤p∧w'.heap[p]? =some (.cells #[.int .i64 0,.slice none 0 0] 27 (0,0))∧∃u,v=.tuple #[.agg #[.int .i64 (Ty.lookT R tag).1,u],.int .i64 (Ty.lookE R tag)]∧FieldsAt w' u (Ty.lookT R tag).2) rfl Tryz.call43 rfl rfl ⟨_,none,0,0,rfl⟩ (fun w' hw=> ?_) (fun v w' h=>InGW.of h.1) (fun v hv=> ?_)
  ·refine(hlk.out w' hw.1).mono ?_;rintro e w'' ⟨u,rfl,h1,h2⟩;obtain⟨um,un,uc,rfl⟩:=Ty.FieldsAt.slice h1;exact⟨_,rfl,⟨_,_,_,rfl⟩,hw.1.nil_then h2,hw.2.1,h2.at hw.2.2 (by simp),_,rfl,h1⟩
  obtain⟨vm,vn,vc,rfl⟩:=hv;simp only[Act.put,sA,sB,sC];refine stage_quiet 3 (by kernel_rfl) ?_;simp only[tA,tB,tC,tD];(repeat go_big_quiet_step (fail));refine wpQuiet_nil ?_;refine stage_imp (fun w'=>Mod [] W0 w'∧W0.heap.size≤p∧w'.heap[p]? =some (.cells #[.int .i64 0,.slice none 0 0] 27 (0,0))∧FieldsAt w' (.slice vm vn vc) (Ty.lookT R tag).2) (fun w' hw=> ?_) ?_
  ·obtain⟨h1,h2,h3,u,hu,h4⟩:=hw;obtain rfl:u=.slice vm vn vc:=by simpa using hu.symm
   exact⟨h1,h2,h3,h4⟩
  refine stage_set (p:=⟨p,0,none⟩) (u:=.agg #[.int .i64 (Ty.lookT R tag).1,.slice vm vn vc]) (fun w'=>(w'.setCell ⟨p,0,none⟩ (.int .i64 (Ty.lookT R tag).1)).setCell ⟨p,1,none⟩ (.slice vm vn vc)) (Typed W0 p (Ty.lookT R tag) (.slice vm vn vc)) rfl rfl rfl rfl rfl (fun w' hw=> ?_) (fun w' hw=>Typed.set hw.1 hw.2.1 hw.2.2.1 hw.2.2.2) (fun w' h=>InGW.of h.1) ?_
  ·have d1:=cells_of hw.2.2.1;have d2:=frozen_of hw.2.2.1;clear k1 k2 hw;go_simp
  refine stage_quiet 1 (by kernel_rfl) ?_;simp only[tA,tB,tC,tD];(repeat go_big_quiet_step (fail));refine wpQuiet_nil ?_;refine stage_nil fun w1 hw1=> ?_
  obtain⟨hm1,hp,hbp,hf⟩:=hw1;have hm1H:=Lib.hid (hm0.out.nil_then hm1);have hp1:=Lib.hid hbp;have hf1:=Lib.hid hf;have hy1:=Lib.hid (hm1.at hy0.out (by simp));have c1:=cells_of hbp;have c2:=cells_of (hm1.at hy0.out (by simp));have f2:=frozen_of (hm1.at hy0.out (by simp));clear k1 k2 hm1 hbp hf hp hlk hlk0 hb0 hx0 hy0 hm0;go_wp2_with fail;have u1:=at_setCell (o:=1) (v:=.slice vm vn vc) (at_setCell (o:=0) (v:=.int .i64 (Ty.lookT R tag).1) hy1.out);refine bodyPost_ret (results_cell_row Tryz.results119 _ _ (w.heap.size+1) 27 _ _ _ rfl u1 Tryz.underlying27 rfl (by kernel_rfl)) rfl ?_;refine⟨.slice vm vn vc,rfl,FieldsAt.laid hf1.out hy1.out _ _,?_⟩;exact(hm1H.out.setCell (p:=⟨w.heap.size+1,0,none⟩) (.inr (by simp)) _).setCell (p:=⟨w.heap.size+1,1,none⟩) (.inr (by simp)) _
end Go.Proofs.YtapbeogoojejmaaGreat
namespace Go.Proofs.YtapbeogoojejmaaGreat
open Go Go.RowKit Go.Stg
open Ty (FieldsAt)
def resX (s:HS) (p o acc:Int):Tb.Ent:=if accD s p o acc=0 then entH s o else Tb.ent0
theorem resX_zero {s:HS} {p o acc:Int} (h:accD s p o acc=0):resX s p o acc=entH s o:=by unfold resX;rw[if_pos h]
theorem resX_bad {s:HS} {p o acc:Int} (h:accD s p o acc≠0):Tb.entV (resX s p o acc)=.agg #[.int .u64 0,.int .i64 0,.int .i64 0,.int .i64 0,.int .i64 0]:=by unfold resX;rw[if_neg h];rfl
theorem accD_res {s:HS} {p o acc:Int} (h:Tb.resE s.T o≠0):accD s p o acc=Tb.resE s.T o:=by unfold accD;rw[if_neg h]
theorem accD_acc {s:HS} {p o acc:Int} (h:Tb.resE s.T o=0):accD s p o acc=Bw.accE s.L (Tb.hSlot o) p (decide ((entH s o).owner=p)) acc:=by unfold accD;rw[if_pos h]
theorem hresolve_ok {F:List Nat} {W w:World} {cs:List Comp} {a:HA} {c:HC} {k:Nat} {s:HS} (hc:c.Ok) (hI:HInv c k s) (hk:k≤1000) {u:List Ext} {B:List Int} {fm:Int→Qt.Q} (hS:Scene F W (hpP a c s.R s.T s.L s.evs s.miss s.st u B fm++cs) w)
  (p o acc:Int) (o0:0≤o) (o1:o≤18446744073709551615):
  Calls Tryz.prog 55 #[.pointer (some ⟨a.hb,0,none⟩),.int .i64 p,.int .u64 o,.int .i64 acc] w fun e w'=>e=.returned (.tuple #[Tb.entV (resX s p o acc),.int .i64 (accD s p o acc)])∧Mod [] w w':=by
 have hm0:=Lib.hid ((Mod.refl [] w).alloc (.cells #[.int .u64 0,.int .i64 0,.int .i64 0,.int .i64 0,.int .i64 0] 110));have hr0:=Lib.hid (at_alloc w (.cells #[.int .u64 0,.int .i64 0,.int .i64 0,.int .i64 0,.int .i64 0] 110));have hb:=hS.block 0 rfl;have hrs:=Lib.hid fun w' (hm:Mod [] w w')=>(show Calls Tryz.prog _ #[.pointer (some ⟨a.tb,0,none⟩),.int .u64 o] w' (fun e w''=>e=.returned (Tb.resV s.T o)∧Mod [] w' w'')from by
  obtain⟨_,⟨_,hA,hH⟩,_⟩:=(hS.then hm).part 3 rfl;exact Tb.resolve_ok hI.tin hA o o0 o1 hc.n (Scene.start hH))
 have hac:=Lib.hid fun w' (hm:Mod [] w w')=>Bw.access_ok (Bw.LedV.of ((hS.then hm).part 4 rfl).choose_spec.1) hI.lin (by have:=hI.llen;omega) (Tb.hSlot o) p (decide ((entH s o).owner=p)) acc
 have hsl:=Lib.hid fun w'=>Tb.slot_ok o o0 o1 w'
 have hch:=cells_of (hm0.out.at hb (by simp));have hbH:=Lib.hid hb;by_cases hE:Tb.resE s.T o=0
 ·have hz:=accD_acc (p:=p) (acc:=acc) hE;have hrv:Tb.resV s.T o=.tuple #[Tb.entV (entH s o),.int .i64 0]:=by unfold Tb.resV;rw[hE];rfl
  rw[hrv]at hrs;have hx1:=Lib.hid fun(h:accD s p o acc=0)=>resX_zero h
  have hx2:=Lib.hid fun(h:accD s p o acc≠0)=>resX_bad h
  rw[hz]at hx1 hx2⊢;generalize Bw.accE s.L (Tb.hSlot o) p (decide ((entH s o).owner=p)) acc=E at*;generalize resX s p o acc=Y at*;generalize Tb.hSlot o=sl at*;generalize entH s o=X at*;obtain⟨xh,xo,xt,xf,xl⟩:=X;simp only[Tb.entV]at hrs hac hx2;obtain⟨b,hbb⟩:∃b,decide (xo=p)=b:=⟨_,rfl⟩;rw[hbb]at hac;have hbe:(xo==p)=b:=by rw[←hbb];simp[BEq.beq]
  obtain⟨YV,hYV⟩:∃YV,Tb.entV Y=YV:=⟨_,rfl⟩;rw[hYV];have hYH:=Lib.hid hYV;clear hz hrv hE hS hb hbb hYV;go_enter Tryz.func55,Tryz.ntmps55;go_wp2_with fail;refine(hrs.out _ hm0.out).mono ?_;rintro e w1 ⟨rfl,hm1⟩;have hm1H:=Lib.hid ((hm0.out.nil_then hm1).alloc (.cells #[.int .u64 xh,.int .i64 xo,.int .i64 xt,.int .i64 xf,.int .i64 xl] 110));have hr1:=Lib.hid (at_alloc_old (o:=.cells #[.int .u64 xh,.int .i64 xo,.int .i64 xt,.int .i64 xf,.int .i64 xl] 110) (hm1.at hr0.out (by simp)));have hx0:=Lib.hid (at_alloc w1 (.cells #[.int .u64 xh,.int .i64 xo,.int .i64 xt,.int .i64 xf,.int .i64 xl] 110));have hlt:=hm1.gt;clear hm1 hrs hm0 hr0 hch;go_wp2_with fail;generalize hW1:w1.alloc (.cells #[.int .u64 xh,.int .i64 xo,.int .i64 xt,.int .i64 xf,.int .i64 xl] 110)=W1 at*;have hb1:=Lib.hid (hm1H.out.at hbH.out (by simp));have k1:=GW.cells (S:=[]) hb1.out (by simp);have k2:=GW.cells (S:=[]) hx0.out (by simp);refine wp_region_pure (by kernel_rfl) (by kernel_rfl) ?_;refine stage_quiet 5 (by kernel_rfl) ?_;simp only[tA,tB,tC,tD];(repeat go_big_quiet_step (fail));refine wpQuiet_nil ?_;refine stage_pure 80 #[.int .u64 o] (.int .i64 sl) rfl Tryz.call80 rfl rfl (fun w' _=>hsl.out w') ?_;simp only[Act.put,sA,sB,sC];refine stage_quiet 6 (by kernel_rfl) ?_;simp only[tA,tB,tC,tD];(repeat go_big_quiet_step (fail));refine wpQuiet_nil ?_;refine stage_pure 121 #[.pointer (some ⟨a.lb,0,none⟩),.int .i64 sl,.int .i64 p,.bool b,.int .i64 acc] (.int .i64 E) rfl Tryz.call121 rfl rfl (fun w' hm=>hac.out w' (hm1H.out.nil_then hm)) ?_;simp only[Act.put,sA,sB,sC];refine stage_quiet 1 (by kernel_rfl) ?_;simp only[tA,tB,tC,tD];(repeat go_big_quiet_step (fail));refine wpQuiet_nil ?_;refine stage_nil fun w2 hm2=> ?_
  have hm2H:=Lib.hid (hm1H.out.nil_then hm2);have hr2:=Lib.hid (hm2.at hr1.out (by simp));have hx2':=Lib.hid (hm2.at hx0.out (by simp));have c1:=cells_of hx2'.out;have c2:=cells_of hr2.out;have f2:=frozen_of hr2.out;clear k1 k2 hm2 hsl hac hm1H hr1 hx0 hb1 hW1;by_cases hE0:E=0
  ·subst hE0;have hy:=hx1.out rfl;have hyv:YV=.agg #[.int .u64 xh,.int .i64 xo,.int .i64 xt,.int .i64 xf,.int .i64 xl]:=by rw[←hYH.out,hy];rfl
   subst hyv;clear hy hx1 hx2;go_wp2_with fail;have hq5:=(at_setCell (o:=4) (v:=.int .i64 xl) (at_setCell (o:=3) (v:=.int .i64 xf) (at_setCell (o:=2) (v:=.int .i64 xt) (at_setCell (o:=1) (v:=.int .i64 xo) (at_setCell (o:=0) (v:=.int .u64 xh) hr2.out)))));have hm5:=(((((hm2H.out.setCell (p:=⟨w.heap.size,0,none⟩) (.inr (Nat.le_refl _)) (.int .u64 xh)).setCell (p:=⟨w.heap.size,1,none⟩) (.inr (Nat.le_refl _)) (.int .i64 xo)).setCell (p:=⟨w.heap.size,2,none⟩) (.inr (Nat.le_refl _)) (.int .i64 xt)).setCell (p:=⟨w.heap.size,3,none⟩) (.inr (Nat.le_refl _)) (.int .i64 xf)).setCell (p:=⟨w.heap.size,4,none⟩) (.inr (Nat.le_refl _)) (.int .i64 xl));refine bodyPost_ret (ret_cell_tmp Tryz.results55 rfl rfl hq5 Tryz.underlying110 rfl (by kernel_rfl)) rfl ?_;exact⟨rfl,hm5⟩
  ·have hyv:=hYH.out.symm.trans (hx2.out hE0);have hne:(E != 0)=true:=by simpa using hE0
   subst hyv;clear hx1 hx2 hE0;go_wp2_with fail;have hq5:=(at_setCell (o:=4) (v:=.int .i64 0) (at_setCell (o:=3) (v:=.int .i64 0) (at_setCell (o:=2) (v:=.int .i64 0) (at_setCell (o:=1) (v:=.int .i64 0) (at_setCell (o:=0) (v:=.int .u64 0) hr2.out)))));have hm5:=(((((hm2H.out.setCell (p:=⟨w.heap.size,0,none⟩) (.inr (Nat.le_refl _)) (.int .u64 0)).setCell (p:=⟨w.heap.size,1,none⟩) (.inr (Nat.le_refl _)) (.int .i64 0)).setCell (p:=⟨w.heap.size,2,none⟩) (.inr (Nat.le_refl _)) (.int .i64 0)).setCell (p:=⟨w.heap.size,3,none⟩) (.inr (Nat.le_refl _)) (.int .i64 0)).setCell (p:=⟨w.heap.size,4,none⟩) (.inr (Nat.le_refl _)) (.int .i64 0));refine bodyPost_ret (ret_cell_tmp Tryz.results55 rfl rfl hq5 Tryz.underlying110 rfl (by kernel_rfl)) rfl ?_;exact⟨rfl,hm5⟩
 ·have hz:=accD_res (p:=p) (acc:=acc) hE;have hrv:=Tb.resV_bad (x:=s.T) (h:=o) rfl hE;rw[hrv]at hrs;have hx2:=resX_bad (s:=s) (p:=p) (o:=o) (acc:=acc) (by rw[hz];exact hE);rw[hx2,hz];generalize Tb.resE s.T o=E at*;have he0:(E==0)=false:=by simpa using hE
  have hne:(E != 0)=true:=by simpa using hE
  clear hz hrv hE hS hx2 hac hsl;go_enter Tryz.func55,Tryz.ntmps55;go_wp2_with fail;refine(hrs.out _ hm0.out).mono ?_;rintro e w1 ⟨rfl,hm1⟩;have hm2H:=Lib.hid (hm0.out.nil_then hm1);have hr2:=Lib.hid (hm1.at hr0.out (by simp));have hlt:=hm1.gt;have c2:=cells_of (hm1.at hr0.out (by simp));have f2:=frozen_of (hm1.at hr0.out (by simp));clear hm1 hrs hm0 hr0 hch;go_wp2_with fail;have hq5:=(at_setCell (o:=4) (v:=.int .i64 0) (at_setCell (o:=3) (v:=.int .i64 0) (at_setCell (o:=2) (v:=.int .i64 0) (at_setCell (o:=1) (v:=.int .i64 0) (at_setCell (o:=0) (v:=.int .u64 0) hr2.out)))));have hm5:=(((((hm2H.out.setCell (p:=⟨w.heap.size,0,none⟩) (.inr (Nat.le_refl _)) (.int .u64 0)).setCell (p:=⟨w.heap.size,1,none⟩) (.inr (Nat.le_refl _)) (.int .i64 0)).setCell (p:=⟨w.heap.size,2,none⟩) (.inr (Nat.le_refl _)) (.int .i64 0)).setCell (p:=⟨w.heap.size,3,none⟩) (.inr (Nat.le_refl _)) (.int .i64 0)).setCell (p:=⟨w.heap.size,4,none⟩) (.inr (Nat.le_refl _)) (.int .i64 0));have hq6:=at_alloc_old (o:=.cells #[.int .u64 0,.int .i64 0,.int .i64 0,.int .i64 0,.int .i64 0] 110) hq5;refine bodyPost_ret (ret_cell_tmp Tryz.results55 rfl rfl hq6 Tryz.underlying110 rfl (by kernel_rfl)) rfl ?_;exact⟨rfl,hm5.alloc _⟩
end Go.Proofs.YtapbeogoojejmaaGreat
