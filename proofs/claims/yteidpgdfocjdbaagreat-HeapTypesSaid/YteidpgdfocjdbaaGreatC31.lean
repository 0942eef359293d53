/- Joined contracts. No conditions. -/
import Derived.RangeFuncCalls
import Derived.RangeFuncNested
import Derived.OrdersIn
import Derived.Test.YteidpgdfocjdbaaGreatCS
import Derived.Test.YteidpgdfocjdbaaGreatC00
import Derived.Test.YteidpgdfocjdbaaGreatC03
import Derived.Test.YteidpgdfocjdbaaGreatC06
import Derived.Test.YteidpgdfocjdbaaGreatC07
import Derived.Test.YteidpgdfocjdbaaGreatC16
import Derived.Test.YteidpgdfocjdbaaGreatC20
import Derived.Test.YteidpgdfocjdbaaGreatC22
import Derived.Test.YteidpgdfocjdbaaGreatC26
import Derived.Test.YteidpgdfocjdbaaGreatC29
import Derived.Test.YteidpgdfocjdbaaGreatC30
set_option maxHeartbeats 2000000
set_option maxRecDepth 20000
namespace Go
namespace Stg
section
variable {P:Program} {ops:Array Oper} {md:Region.Mode} {I:World→Prop} {fin:Nat} {n l0:Nat}
def noDefer (o:Oper):Bool:=match o.op with
 | .defer _=>false
 |_=>true
theorem noDefer_spec {o:Oper} (h:noDefer o=true):∀c,o.op≠ .defer c:=fun c e=>by
 unfold noDefer at h;rw[e]at h;cases h
theorem wpOpIn_of_gives {Q':Exit→Act→World→Prop} {o:Oper} {a:Act} {w:World} {R:Value→World→Prop} {K:Act→World→Prop} (hd:noDefer o=true)
  (h:gives P o a w (LetsOut Q') R) (hk:∀v w',R v w'→K (a.put o.dst v) w'):o.wpIn (Fence.wide.inRound l0) n P a w K Q':=by
 unfold gives at h;refine⟨fun _ _=>trivial,?_⟩;rw[Oper.semAt_eq _ _ _ (noDefer_spec hd)];generalize(execOp a.eval o).run P w=r at*
 cases r with
 |ok n w'=>
  cases n<;>simp only[]at h<;>simp only[Oper.uponIn]
  case value v=>exact hk _ _ h
  case skip=>exact hk _ _ h
  case enter f args=>
   refine⟨fun hx=>(by cases hx),(CallsIn.inRound l0 (callsIn_wide.2 h)).mono fun e w'' he=> ?_⟩
   cases e with
   |returned v=>exact hk _ _ he
   |panicked c=>exact he.elim
   |outgrown=>exact he
 |halt x w'=>simp only[]at h
theorem wpOpIn_of_holds {Q':Exit→Act→World→Prop} {o:Oper} {a:Act} {w:World} {v:Value} {K:Act→World→Prop} (hd:noDefer o=true)
  (h:holdsAt P o a w v) (hk:K (a.put o.dst v) w):o.wpIn (Fence.wide.inRound l0) n P a w K Q':=by
 unfold holdsAt at h;refine⟨fun _ _=>trivial,?_⟩;rw[Oper.semAt_eq _ _ _ (noDefer_spec hd)];generalize(execOp a.eval o).run P w=r at*
 cases r with
 |ok n w'=>
  cases n<;>simp only[]at h<;>simp only[Oper.uponIn]
  case value u=>obtain⟨rfl,rfl⟩:=h;exact hk
  case skip=>obtain⟨rfl,rfl⟩:=h;exact hk
 |halt x w'=>simp only[]at h
theorem wpAnyIn_of_T {Q:Act→World→Prop} {Q':Exit→Act→World→Prop} (hQ:∀a w,Q a w→Q' .normal a w) (hfin:fin<ops.size→∀i oi,ops[i]? =some oi→i≠fin→freeOp oi=false→forced md ops fin i) (hd:∀(i:Nat) (o:Oper),ops[i]? =some o→noDefer o=true):
  ∀(fuel:Nat) (listed:Array Bool) (C:World→Prop) (a:Act) (w:World),closed md ops listed→((∀i oi,ops[i]? =some oi→listed.getD i true=false→freeOp oi=true)∨∀w,C w→I w)→C w→
   wpAnyT P md ops I fin (LetsOut Q') Q fuel listed C a→wpAnyIn (Fence.wide.inRound l0) n P md ops Q' fuel listed a w
 |0,_,_,_,_,_,_,hw,h=>⟨h.1,hQ _ _ (h.2 _ hw)⟩
 |fuel+1,listed,C,a,w,hcl,hCI0,hw,h=>by
  refine⟨fun h0=>hQ _ _ (h.1 h0 _ hw),fun i hi=> ?_⟩;have hun':∀j oj,ops[j]? =some oj→(listed.setIfInBounds i true).getD j true=false→listed.getD j true=false:=fun j oj _ h=>by
   by_cases hij:i=j
   ·subst hij;rcases Nat.lt_or_ge i listed.size with h'|h'
    ·simp[h']at h
    ·rw[Array.setIfInBounds_eq_of_size_le h']at h;exact h
   ·rwa [getD_set_ne true hij]at h
  have hnext:(∀j oj,ops[j]? =some oj→(listed.setIfInBounds i true).getD j true=false→freeOp oj=true)∨∀w,C w→I w:=hCI0.imp (fun h j oj hj hu=>h j oj hj (hun' j oj hj hu)) id;have hiu:=(mem_ready.1 hi).1;have hcl':=hcl.set hi;have h2:=h.2 i hi;unfold tOp at h2;unfold wpOpIn;split
  ·rename_i ho;simp only[ho]at h2;exact wpAnyIn_of_T hQ hfin hd fuel _ _ _ _ hcl' hnext hw h2
  ·rename_i o ho;simp only[ho]at h2;split
   ·rename_i hwant;simp only[hwant,if_true]at h2;split at h2
    ·obtain⟨V,R,_,h3,h4,h5⟩:=h2;refine wpOpIn_of_gives (hd i o ho) (h3 w hw) fun v w' hr=>wpAnyIn_of_T hQ hfin hd fuel _ _ _ _ hcl' ?_ hr (h5 v (h4 v w' hr).1)
     by_cases hn:i=fin
     ·subst hn;exact .inl (fin_last hfin hcl hi)
     ·exact .inr fun w hr=>(h4 v w hr).2.resolve_left hn
    ·obtain⟨v,h3,h4⟩:=h2;exact wpOpIn_of_holds (hd i o ho) (h3 w (hCI0.imp (fun h=>h i o ho hiu) (fun h=>h w hw))) (wpAnyIn_of_T hQ hfin hd fuel _ _ _ _ hcl' hnext hw h4)
   ·rename_i hwant;simp only[hwant,if_false,Bool.false_eq_true]at h2;exact⟨fun _ _=>trivial,wpAnyIn_of_T hQ hfin hd fuel _ _ _ _ hcl' hnext hw h2⟩
theorem wpIn_region_stage {id:Nat} {Q:Exit→Act→World→Prop} {a:Act} {w:World} {l:List Oper} (I C:World→Prop) (hm:P.follows .mixedOrders=true) (hB:stageB .any l.toArray=true) (hd:l.all noDefer=true)
  (hCI:∀w,C w→I w) (hC:C w.drew) (h:wpStage P l.toArray I (LetsOut Q) (fun a' w'=>Q .normal a' w') l C a):(Code.region id l.toArray true).wpIn (Fence.wide.inRound l0) n P Q a w:=by
 simp only[stageB,Bool.and_eq_true]at hB;obtain⟨hlex,hch⟩:=hB;simp only[Region.lexB,Bool.and_eq_true]at hlex;have hc0:closed .any l.toArray (Array.replicate l.toArray.size false):=fun j oj _ hl=>by rw[wp_region_stage.getD_replicate_false']at hl;cases hl
 obtain⟨fin,hfin,hfl⟩:∃fin,(fin<l.toArray.size→∀i oi,l.toArray[i]? =some oi→i≠fin→freeOp oi=false→forced .any l.toArray fin i)∧(lastWaits l.toArray=true→fin=l.toArray.size-1):=by
  by_cases h:lastWaits l.toArray=true
  ·exact⟨_,fun _=>lastWaits_spec h,fun _=>rfl⟩
  ·exact⟨l.toArray.size,fun h'=>absurd h' (Nat.lt_irrefl _),fun h'=>absurd h' h⟩
 have hd':∀(i:Nat) (o:Oper),l.toArray[i]? =some o→noDefer o=true:=fun i o hi=>by
  rw[List.all_eq_true]at hd;refine hd o ?_;rw[List.getElem?_toArray]at hi;exact List.mem_of_getElem? hi
 refine wpIn_region_any hm (wpAnyIn_of_T (I:=I) (fin:=fin) (Q:=fun a' w'=>Q .normal a' w') (fun _ _ h=>h) hfin hd' _ _ C _ _ hc0 (.inr hCI) hC ?_);have:=wpAnyT_lex0 (P:=P) (I:=I) (md:=.any) (fin:=fin) hfl hlex.1 (chain_spec hch) _ (hCI _ hC) l 0 (Array.replicate l.toArray.size false) C a (by simp)
  hc0 (fun j hj=>by omega) (by simpa using hlex.2) h
 simpa using this
end
end Stg
end Go
namespace Go.Proofs.YteidpgdfocjdbaaGreat.Ty
open Go Go.RowKit Go.Stg
attribute [local go_sem] Oper.semAt_some
theorem FieldsAt.slice {w:World} {v:Value} {fs:List Fld} (h:FieldsAt w v fs):∃a m c,v=.slice a m c:=by
 rcases h with⟨h,_⟩|⟨_,_,_,h,_⟩<;>exact⟨_,_,_,h⟩
theorem FieldsAt.grown {w w':World} {v:Value} {fs:List Fld} {row:Option Nat} (h:FieldsAt w v fs) (hg:w.grownBy w' row) (hr:∀r,row=some r→∃o:Obj,w.heap[r]? =some o∧o.isCells=false):FieldsAt w' v fs:=by
 rcases h with h|⟨sb,so,cap,rfl,h2,h3,h4⟩
 ·exact .inl h
 ·refine .inr ⟨sb,so,cap,rfl,Nat.lt_of_lt_of_le h2 hg.size,h3,fun i hi=> ?_⟩;obtain⟨a,b⟩:=h4 i hi;have hne:some sb≠row:=fun e=>by
   obtain⟨o,ho,hc⟩:=hr sb e.symm;unfold World.cell? at a;simp only[ho]at a;cases o<;>simp[Obj.isCells]at hc<;>simp at a
  have hb:∀j,w'.cell? ⟨sb,j,none⟩=w.cell? ⟨sb,j,none⟩:=fun j=>World.cell?_of_block (a:=⟨sb,j,none⟩) (hg.block sb h2 hne)
  exact⟨(hb _).trans a,(hb _).trans b⟩
end Go.Proofs.YteidpgdfocjdbaaGreat.Ty
namespace Go.Proofs.YteidpgdfocjdbaaGreat.Ty
open Go Go.RowKit Go.Stg
section
variable {F:List Nat} {W w:World} {cs:List Comp}
theorem sc_rregister (i:Nat) {rb:Nat} {R:List Ty} (h:Scene F W cs w) (hi:cs[i]? =some (regC 42 rb R)) {len:Int} {v:Value} {fs:List Fld} (hF:FieldsAt w v fs) (hn: -9223372036854775808≤len) (hn2:len≤9223372036854775807):
  Calls Tryz.prog 10 #[.pointer (some ⟨rb,0,none⟩),.agg #[.int .i64 len,v]] w fun e w'=>e=.returned (regV R (len,fs))∧Scene F W (cs.set i (regC 42 rb (regN R (len,fs)))) w':=
 h.call i hi fun _ hf=>rregister_ok hf len v fs hF hn hn2
end
end Go.Proofs.YteidpgdfocjdbaaGreat.Ty
namespace Go.Proofs.YteidpgdfocjdbaaGreat
open Go Go.RowKit Go.Stg
def StAt (w:World) (sm:Nat) (st:Int→Int):Prop:=∃es c,w.heap[sm]? =some (.map es c)∧IKeys es.toList∧∀k,mget k es.toList=if st k=0 then none else some (.bool (decide (st k=1)))
theorem StAt.mod {S:List Nat} {w w':World} {sm:Nat} {st:Int→Int} (h:StAt w sm st) (hm:Mod S w w') (hS:sm∉S):StAt w' sm st:=
 let ⟨es,c,h1,h2,h3⟩:=h;⟨es,c,hm.at h1 hS,h2,h3⟩
def stC (sm:Nat) (st:Int→Int):Comp:=
 ⟨fun w f=>StAt w sm st∧f=[sm],fun h hm hT=>⟨h.1.mod hm (hT sm (by rw[h.2];simp)),h.2⟩,fun h x hx=>by
  rw[h.2,List.mem_singleton]at hx;subst hx;obtain⟨_,_,h1,_⟩:=h.1;exact lt_of h1⟩
theorem StAt.look {w:World} {sm:Nat} {st:Int→Int} (h:StAt w sm st) (k:Int):(Instr.lookup 76 (.map (some sm)) (.int .i64 k) false).run Tryz.prog w=.ok (.bool (decide (st k=1))) w:=by
 obtain⟨es,c,h1,h2,h3⟩:=h;rw[run_lookup_int Tryz.underlying76 Tryz.underlying3 Tryz.zeroValue4 h1 h2,h3];by_cases e:st k=0
 ·rw[if_pos e,e];rfl
 ·rw[if_neg e];rfl
theorem StAt.look2 {w:World} {sm:Nat} {st:Int→Int} (h:StAt w sm st) (k:Int):(Instr.lookup 76 (.map (some sm)) (.int .i64 k) true).run Tryz.prog w=.ok (.tuple #[.bool (decide (st k=1)),.bool (decide (st k≠0))]) w:=by
 obtain⟨es,c,h1,h2,h3⟩:=h;rw[run_lookup_int2 Tryz.underlying76 Tryz.underlying3 Tryz.zeroValue4 h1 h2,h3];by_cases e:st k=0
 ·rw[if_pos e,e];rfl
 ·rw[if_neg e];simp[e]
theorem StAt.put {w:World} {sm:Nat} {st:Int→Int} (h:StAt w sm st) (p:Int) (b:Bool):∃w',(Instr.mapUpdate 76 (.map (some sm)) (.int .i64 p) (.bool b)).run Tryz.prog w=.ok () w'∧StAt w' sm (setI st p (if b=true then 1 else 2))∧Mod [sm] w w':=by
 obtain⟨es,c,h1,h2,h3⟩:=h;obtain⟨k1,k2⟩:=mput_spec p (.bool b) c es h2;refine⟨_,run_update_int (P:=Tryz.prog) Tryz.underlying76 Tryz.underlying3 h1 h2 p (.bool b),⟨_,_,at_setMap h1,k1,fun k=> ?_⟩,(Mod.refl [sm] w).setMap (.inl (by simp)) _⟩;rw[k2];unfold setI;by_cases e:k=p
 ·subst e;cases b<;>simp
 ·rw[if_neg e,if_neg e];exact h3 k
theorem StAt.congr {w:World} {sm:Nat} {st st':Int→Int} (h:StAt w sm st) (e:∀k,st k=st' k):StAt w sm st':=by
 obtain rfl:st=st':=funext e;exact h
theorem scene_st {F:List Nat} {W w:World} {cs:List Comp} (i:Nat) {sm:Nat} {st:Int→Int} (h:Scene F W cs w) (hi:cs[i]? =some (stC sm st)):StAt w sm st:=
 let ⟨_,h1,_⟩:=h.part i hi;h1.1
def meterC (b:Nat) (l:Qt.Q) (f:Int→Qt.Q):Comp:=
 ⟨fun w fp=>∃mo,Qt.MeterAt w b mo l f∧fp=b::mo.toList,fun⟨mo,h,e⟩ hm hT=>⟨mo,h.mod hm fun x hx=>hT x (by rw[e];exact hx),e⟩,fun⟨mo,h,e⟩ x hx=>by
  rw[e]at hx;rcases List.mem_cons.1 hx with rfl|hx
  ·exact lt_of h.blk
  ·rw[Option.mem_toList]at hx;exact h.map.lt x hx⟩
structure HA where
 hb:Nat
 ar:Nat
 rt:Nat
 tb:Nat
 lb:Nat
 mb:Nat
 gb:Nat
 sm:Nat
 ev:Value
 b:Nat
 pb:Nat
 sl:Value
def hpB (a:HA):Obj:=.cells #[.pointer (some ⟨a.ar,0,none⟩),.pointer (some ⟨a.rt,0,none⟩),.pointer (some ⟨a.tb,0,none⟩),.pointer (some ⟨a.lb,0,none⟩),.pointer (some ⟨a.mb,0,none⟩),.pointer (some ⟨a.gb,0,none⟩),.map (some a.sm)] 81 (0,0)
def hpP (a:HA) (c:HC) (R:List Ty.Ty) (T:Tb.TS) (L:List Bw.Bor) (evs:List Ev) (miss:List Int) (st:Int→Int) (u:List Ext) (B:List Int) (fm:Int→Qt.Q):List Comp:=
 [blockC a.hb (hpB a),arC a.ar c.size u B,Ty.regC 135 a.rt R,Tb.tabC a.tb a.ev a.b a.pb a.sl c.first T,Bw.ledC a.lb L,meterC a.mb c.lim fm,logC a.gb c.cap evs miss,stC a.sm st]
def hpOn (a:HA) (c:HC) (s:HS) (w:World) (f:List Nat):Prop:=∃B,ArIs c.size (obs c s) B∧Hold (hpP a c s.R s.T s.L s.evs s.miss s.st (usedH c s) B (hasH c s)) w f
def hpA (a:HA) (c:HC) (s:HS):Comp:=⟨hpOn a c s,fun⟨B,h1,h2⟩ hm hT=>⟨B,h1,h2.keep hm hT⟩,fun⟨_,_,h⟩=>h.lt⟩
section
variable {F:List Nat} {W w:World} {cs:List Comp} {a:HA} {c:HC} {s:HS}
theorem hp_open (h:Scene F W (hpA a c s::cs) w):∃B,ArIs c.size (obs c s) B∧Scene F W (hpP a c s.R s.T s.L s.evs s.miss s.st (usedH c s) B (hasH c s)++cs) w:=by
 obtain⟨h1,fp,⟨f,g,⟨B,hB,hf⟩,hg,hd,rfl⟩,h2⟩:=h;exact⟨B,hB,h1,f++g,hf.append hg hd,h2⟩
theorem hp_shut {B:List Int} (hB:ArIs c.size (obs c s) B) (h:Scene F W (hpP a c s.R s.T s.L s.evs s.miss s.st (usedH c s) B (hasH c s)++cs) w):Scene F W (hpA a c s::cs) w:=
 Scene.shut1 (c:=hpA a c s) _ h fun _ hg=>⟨B,hB,hg⟩
end
section
variable {w:World} {a:HA} (hb:w.heap[a.hb]? =some (hpB a))
include hb
theorem works_ok:Calls Tryz.prog 28 #[.pointer (some ⟨a.hb,0,none⟩)] w fun e w'=>e=.returned (.bool true)∧Mod [] w w':=by
 have hc:=cells_of hb;have hnil:∀w,(binOp .neq 76 (.map (some a.sm)) (.map none)).run Tryz.prog w=.ok (.bool true) w:=fun w=>run_neq_map_nil w _ _ _ (some a.sm) Tryz.underlying76
 clear hb;go_enter Tryz.func28,Tryz.ntmps28;go_wp2_with fail;go_ret;exact⟨rfl,Mod.refl _ _⟩
theorem alive_ok {st:Int→Int} (hs:StAt w a.sm st) (p:Int):Calls Tryz.prog 76 #[.pointer (some ⟨a.hb,0,none⟩),.int .i64 p] w fun e w'=>e=.returned (.bool (decide (st p=1)))∧Mod [] w w':=by
 have hbH:=Lib.hid hb;have hsH:=Lib.hid hs;have hwk:=Lib.hid (works_ok hb);clear hb hs;go_enter Tryz.func76,Tryz.ntmps76;go_wp2_with fail;refine hwk.out.mono ?_;rintro e w1 ⟨rfl,hm⟩;have hc:=cells_of (hm.at hbH.out (by simp));have hlk:=(hsH.out.mod hm (by simp)).look p;have hmH:=Lib.hid hm;clear hm hwk hbH;go_wp2_with fail;go_ret;exact⟨rfl,hmH.out⟩
theorem other_ok {s:HS} (hs:StAt w a.sm s.st) (p q:Int):Calls Tryz.prog 94 #[.pointer (some ⟨a.hb,0,none⟩),.int .i64 p,.int .i64 q] w fun e w'=>e=.returned (.int .i64 (otherE s p q))∧Mod [] w w':=by
 have hal:=Lib.hid (alive_ok hb hs q);clear hb hs;unfold otherE;by_cases e:q=p
 ·have e1:(q==p)=true:=by simp[e]
  rw[if_pos (.inl e)];go_enter Tryz.func94,Tryz.ntmps94;go_wp2_with fail;go_ret;exact⟨rfl,Mod.refl _ _⟩
 ·have e1:(q==p)=false:=by simp[e]
  obtain⟨b,hbb⟩:∃b,decide (s.st q=1)=b:=⟨_,rfl⟩;rw[hbb]at hal;have e2:(q=p∨s.st q≠1)↔b=false:=by rw[←hbb];simp[e]
  simp only[e2];clear e2 hbb e
  cases b with
  |true=>
   rw[if_neg (by simp)];go_enter Tryz.func94,Tryz.ntmps94;go_wp2_with fail;refine hal.out.mono ?_;rintro e w1 ⟨rfl,hm⟩;have hmH:=Lib.hid hm;clear hm hal;go_wp2_with fail;go_ret;exact⟨rfl,hmH.out⟩
  |false=>
   rw[if_pos rfl];go_enter Tryz.func94,Tryz.ntmps94;go_wp2_with fail;refine hal.out.mono ?_;rintro e w1 ⟨rfl,hm⟩;have hmH:=Lib.hid hm;clear hm hal;go_wp2_with fail;go_ret;exact⟨rfl,hmH.out⟩
end
theorem inrange_ok (n l m:Int) (w:World):Calls Tryz.prog 33 #[.int .i64 n,.int .i64 l,.int .i64 m] w fun e w'=>e=.returned (.bool (decide (l≤n)&&decide (n≤m)))∧Mod [] w w':=by
 by_cases h:l≤n
 ·have e1:decide (n≥l)=true:=by simp[h]
  rw[show decide (l≤n)=true by simp[h],Bool.true_and];go_enter Tryz.func33,Tryz.ntmps33;go_wp2_with fail;go_ret;exact⟨rfl,Mod.refl _ _⟩
 ·have e1:decide (n≥l)=false:=by simp;omega
  rw[show decide (l≤n)=false by simp;omega,Bool.false_and];go_enter Tryz.func33,Tryz.ntmps33;go_wp2_with fail;go_ret;exact⟨rfl,Mod.refl _ _⟩
end Go.Proofs.YteidpgdfocjdbaaGreat
namespace Go
namespace Stg
section
variable {P:Program}
theorem wp_region_part {id:Nat} {Q:Exit→Act→World→Prop} {a:Act} (fa:List Nat) {W:World} {l:List Oper} (hm:P.follows .mixedOrders=true) (hB:stageB .any l.toArray=true)
  (h:wpStage P l.toArray (fun w'=>∃x:GW fa W,w'=x.1) (LetsOut Q) (fun a' w'=>Q .normal a' w') l (fun w'=>Mod [] W w') a):(Code.region id l.toArray true).wp P Q a W:=
 wp_region_stage (fun w'=>∃x:GW fa W,w'=x.1) (fun w'=>Mod [] W w') hm hB (fun _ h=>InGW.of (h.mono (by simp))) (Mod.refl _ _).drew h
def Took (c':Comp) (fa:List Nat) (W w':World):Prop:=Mod fa W w'∧∃f',c'.on w' f'∧∀x∈f',x∈fa∨W.heap.size≤x
end
section
variable {P:Program} {ops:Array Oper} {Out:Prop} {Q:Act→World→Prop}
theorem stage_look {fa:List Nat} {W:World} (f:FuncId) (args:Array Value) (v:Value) {o:Oper} {rest:List Oper} {a:Act} {asx:Array Operand} {ts:Array TypeId}
  (hop:o.op=.call ⟨.value (.func f),asx,ts⟩) (hcall:∀(args:Array Value) w,(callFunc f args).run P w=.ok (.enter f args) w)
  (hw:Region.wanted o (yielded ops a.tmps)=true) (hargs:(asx.toList.map a.eval).toArray=args)
  (hc:∀w,Mod [] W w→Calls P f args w fun e w'=>e=.returned v∧Mod [] w w')
  (h:wpStage P ops (fun w'=>∃x:GW fa W,w'=x.1) Out Q rest (fun w'=>Mod [] W w') (a.put o.dst v)):
  wpStage P ops (fun w'=>∃x:GW fa W,w'=x.1) Out Q (o::rest) (fun w'=>Mod [] W w') a:=
 stage_go f args v (fun w'=>Mod [] W w') hop hcall hw hargs (fun w hm=>(hc w hm).mono fun _ _ ⟨he,k⟩=>⟨he,hm.nil_then k⟩) (fun _ h=>InGW.of (h.mono (by simp))) h
theorem stage_takes {fa:List Nat} {W:World} {c':Comp} (f:FuncId) (args:Array Value) (v:Value) {o:Oper} {rest:List Oper} {a:Act} {asx:Array Operand} {ts:Array TypeId}
  (hop:o.op=.call ⟨.value (.func f),asx,ts⟩) (hcall:∀(args:Array Value) w,(callFunc f args).run P w=.ok (.enter f args) w)
  (hw:Region.wanted o (yielded ops a.tmps)=true) (hargs:(asx.toList.map a.eval).toArray=args)
  (hc:∀w,Mod [] W w→Calls P f args w (Takes c' v w fa))
  (h:wpStage P ops (fun w'=>∃x:GW fa W,w'=x.1) Out Q rest (fun w'=>Took c' fa W w') (a.put o.dst v)):
  wpStage P ops (fun w'=>∃x:GW fa W,w'=x.1) Out Q (o::rest) (fun w'=>Mod [] W w') a:=
 stage_go f args v (fun w'=>Took c' fa W w') hop hcall hw hargs (fun w hm=>(hc w hm).mono fun _ _ ⟨f',he,k1,k2,k3⟩=>⟨he,(hm.mono (by simp)).trans k2,f',k1,fun x hx=>(k3 x hx).imp id fun h=>Nat.le_trans hm.size h⟩) (fun _ h=>InGW.of h.1) h
end
section
variable {P:Program} {ops:Array Oper} {I:World→Prop} {Out:Prop} {Q:Act→World→Prop}
theorem stage_set {o:Oper} {rest:List Oper} {C:World→Prop} {a:Act} {t:TypeId} {x y:Operand} {p:Addr} {u:Value} (f:World→World) (C':World→Prop) (hop:o.op=.store t x y) (hd:o.dst=none) (hw:Region.wanted o (yielded ops a.tmps)=true)
  (hx:a.eval x=.pointer (some p)) (hy:a.eval y=u) (hrun:∀w,C w→(Instr.storeAt t (.pointer (some p)) u).run P w=.ok () (f w)) (hC:∀w,C w→C' (f w)) (hI:∀w,C' w→I w) (h:wpStage P ops I Out Q rest C' a):
  wpStage P ops I Out Q (o::rest) C a:=by
 unfold wpStage;have he:eff o=true:=by simp[eff,hop]
 simp only[hw,he,if_true];refine⟨fun v=>v=undef,fun v w'=>v=undef∧C' w',⟨undef,rfl⟩,fun w hc=> ?_,fun v w hv=>⟨hv.1,.inr (hI w hv.2)⟩,fun v hv=> ?_⟩
 ·unfold gives;have hr:(execOp a.eval o).run P w=.ok .skip (f w):=by simp[execOp,hop,hx,hy,hrun w hc]
  rw[hr];exact⟨rfl,hC w hc⟩
 ·subst hv;have e:(fun(v:Value) w'=>v=undef∧C' w') undef=C':=by funext w';simp
  rw[e,hd];exact h
theorem wpStage_imp:∀ {l:List Oper} {C C':World→Prop} {a:Act},(∀w,C w→C' w)→wpStage P ops I Out Q l C' a→wpStage P ops I Out Q l C a
 | [],_,_,_,hC,h=>by
  unfold wpStage at*;exact fun w hw=>h w (hC w hw)
 |o::l,C,C',a,hC,h=>by
  unfold wpStage at*;split
  ·rename_i hw;simp only[hw,if_true]at h;split
   ·rename_i he;simp only[he,if_true]at h;obtain⟨V,R,h1,h2,h3,h4⟩:=h;exact⟨V,R,h1,fun w hw=>h2 w (hC w hw),h3,h4⟩
   ·rename_i he;simp only[he,if_false,Bool.false_eq_true]at h;obtain⟨v,h1,h2⟩:=h;exact⟨v,h1,wpStage_imp hC h2⟩
  ·rename_i hw;simp only[hw,if_false,Bool.false_eq_true]at h;exact wpStage_imp hC h
theorem stage_imp {l:List Oper} {C:World→Prop} {a:Act} (C':World→Prop) (hC:∀w,C w→C' w) (h:wpStage P ops I Out Q l C' a):wpStage P ops I Out Q l C a:=wpStage_imp hC h
end
theorem wp_got {P:Program} {c:Code} {Q:Exit→Act→World→Prop} {a:Act} {w:World} (W0:World) (o:Obj) (FR:Nat→Act)
  (h:c.wp P (fun e a' w'=>e=.normal∧∃p,a'=FR p∧Mod [] W0 w'∧W0.heap.size≤p∧w'.heap[p]? =some o) a w) (hk:∀p w',Mod [] W0 w'→W0.heap.size≤p→w'.heap[p]? =some o→Q .normal (FR p) w'):c.wp P Q a w:=
 wp_mono h (by rintro e a' w' ⟨rfl,p,rfl,h1,h2,h3⟩;exact hk p w' h1 h2 h3)
theorem at_setCells {b:Nat} {T:TypeId} {fr:Nat×Nat}:∀(vs:List Value) (o:Nat) (w:World) (zs:Array Value),w.heap[b]? =some (.cells zs T fr)→(w.setCells b o vs).heap[b]? =some (.cells (splice zs.toList o vs).toArray T fr)
 | [],_,_,zs,h=>by rw[World.setCells,splice,Array.toArray_toList];exact h
 |v::r,o,w,zs,h=>by
  rw[World.setCells,splice];have:=at_setCells r (o+1) _ _ (at_setCell (o:=o) (v:=v) h);rw[Array.toList_setIfInBounds]at this;exact this
theorem laid_all {w:World} {b:Nat} {T:TypeId} {fr:Nat×Nat} {zs cs:Array Value} (h:w.heap[b]? =some (.cells zs T fr)) (hs:zs.size=cs.size):(w.setCells b 0 cs.toList).heap[b]? =some (.cells cs T fr):=by
 rw[at_setCells cs.toList 0 w zs h];congr 2;apply Array.ext';simp only;apply List.ext_getElem?;intro i;rw[splice_at];by_cases c:i<zs.size
 ·rw[if_pos (by simp;omega)];simp
 ·rw[if_neg (by simp;omega),List.getElem?_eq_none (by simp;omega),List.getElem?_eq_none (by simp;omega)]
theorem there_all {w:World} {b:Nat} {T:TypeId} {zs:Array Value} {n:Nat} (h:w.heap[b]? =some (.cells zs T (0,0))) (hn:n=zs.size):w.there b 0 n:=fun j hj=>by
 rw[cells_of h,frozen_of h,Nat.zero_add];exact⟨by simp;omega,rfl⟩
theorem Scene.behind {F:List Nat} {W w:World} {c:Comp} {ds cs:List Comp} (h:Scene F W (c::(ds++cs)) w):Scene F W (ds++c::cs) w:=by
 obtain⟨hm,fp,⟨f,g,h1,h2,h3,rfl⟩,h4⟩:=h;obtain⟨f1,g1,k1,k2,k3,rfl⟩:=h2.parted;refine⟨hm,f1++(f++g1),Hold.append k1 ⟨f,g1,h1,k2,fun x hx hxg=>h3 x hx (List.mem_append_right _ hxg),rfl⟩ fun x hx hxg=> ?_,fun x hx=>h4 x ?_⟩
 ·rcases List.mem_append.1 hxg with h|h
  ·exact h3 x h (List.mem_append_left _ hx)
  ·exact k3 x hx h
 ·simp only[List.mem_append]at hx⊢;rcases hx with h|h|h
  ·exact .inr (.inl h)
  ·exact .inl h
  ·exact .inr (.inr h)
theorem Scene.takePart {F:List Nat} {W w:World} {cs:List Comp} (i:Nat) {c:Comp} (h:Scene F W cs w) (hi:cs[i]? =some c):
  ∃fa:List Nat,(∀w',Mod [] w w'→c.on w' fa)∧(∀(w':World) (c':Comp),Took c' fa w w'→Scene F W (cs.set i c') w')∧∀(j b:Nat) (o:Obj),(cs.eraseIdx i)[j]? =some (blockC b o)→b∉fa:=by
 obtain⟨fa,h1,h2,h3⟩:=h.partB i hi;exact⟨fa,fun w' hm=>Comp.keep c h1 hm (by simp),fun w' c' ⟨k1,f',k2,k3⟩=>h2 w' f' c' k2 k1 k3,h3⟩
end Stg
end Go
namespace Go.Proofs.YteidpgdfocjdbaaGreat
open Go Go.RowKit Go.Stg
open Ty (FieldsAt)
theorem FieldsAt.laid {w:World} {v:Value} {fs:List Ty.Fld} {p:Nat} {x:Value} {m:Option Addr} {n k:Nat} (h:FieldsAt w v fs) (hp:w.heap[p]? =some (.cells #[x,.slice m n k] 25 (0,0))) (u0 u1:Value):
  FieldsAt ((w.setCell ⟨p,0,none⟩ u0).setCell ⟨p,1,none⟩ u1) v fs:=by
 rcases h with h|⟨sb,so,cap,rfl,h2,h3,h4⟩
 ·exact .inl h
 ·refine .inr ⟨sb,so,cap,rfl,by simpa using h2,h3,fun i hi=> ?_⟩;by_cases e:sb=p
  ·exfalso;subst e;obtain⟨q1,q2⟩:=h4 i hi;rw[cells_of hp]at q1 q2;obtain⟨z,hz⟩:∃z,so+i*2=z:=⟨_,rfl⟩;rw[hz]at q1 q2
   match z,q1,q2 with
   |0,q1,q2=>simp at q2
   |1,q1,q2=>simp at q1
   |z+2,q1,q2=>simp at q1
  ·have hm:=((Mod.refl [p] w).setCell (p:=⟨p,0,none⟩) (.inl (by simp)) u0).setCell (p:=⟨p,1,none⟩) (.inl (by simp)) u1;rw[Ty.cell_mod hm h2 (by simpa using e),Ty.cell_mod hm h2 (by simpa using e)];exact h4 i hi
def Typed (W:World) (p:Nat) (t:Ty.Ty) (v:Value) (w:World):Prop:=Mod [] W w∧W.heap.size≤p∧w.heap[p]? =some (.cells #[.int .i64 t.1,v] 25 (0,0))∧FieldsAt w v t.2
theorem Typed.set {W w:World} {p:Nat} {t:Ty.Ty} {v:Value} (hm:Mod [] W w) (hp:W.heap.size≤p) (hb:w.heap[p]? =some (.cells #[.int .i64 0,.slice none 0 0] 25 (0,0))) (hf:FieldsAt w v t.2):
  Typed W p t v ((w.setCell ⟨p,0,none⟩ (.int .i64 t.1)).setCell ⟨p,1,none⟩ v):=
 ⟨(hm.setCell (p:=⟨p,0,none⟩) (.inr hp) _).setCell (p:=⟨p,1,none⟩) (.inr hp) _,hp,by simpa using at_setCell (o:=1) (v:=v) (at_setCell (o:=0) (v:=.int .i64 t.1) hb),FieldsAt.laid hf hb _ _⟩
theorem typeof_ok {a:HA} {R:List Ty.Ty} {w:World} {f:List Nat} (hb:w.heap[a.hb]? =some (hpB a)) (hr:(Ty.regC 135 a.rt R).on w f) (x:Tb.Ent):
  Calls Tryz.prog 97 #[.pointer (some ⟨a.hb,0,none⟩),Tb.entV x] w fun e w'=>∃v,e=.returned (.agg #[.int .i64 (Ty.lookT R x.tag).1,v])∧FieldsAt w' v (Ty.lookT R x.tag).2∧Mod [] w w':=by
 obtain⟨h,owner,tag,off,len⟩:=x;simp only[Tb.entV];have hm0:=Lib.hid (((Mod.refl [] w).alloc (.cells #[.int .u64 h,.int .i64 owner,.int .i64 tag,.int .i64 off,.int .i64 len] 119)).alloc (.cells #[.int .i64 0,.slice none 0 0] 25));have hlk0:=Lib.hid fun w' (hm:Mod [] w w')=>Ty.lookup_ok (Comp.keep (Ty.regC 135 a.rt R) hr hm (by simp)) tag
 have hb0:=Lib.hid (hm0.out.at hb (by simp));have hx0:=Lib.hid (at_alloc_old (o:=.cells #[.int .i64 0,.slice none 0 0] 25) (at_alloc w (.cells #[.int .u64 h,.int .i64 owner,.int .i64 tag,.int .i64 off,.int .i64 len] 119)));have hy0:=at_alloc (w.alloc (.cells #[.int .u64 h,.int .i64 owner,.int .i64 tag,.int .i64 off,.int .i64 len] 119)) (.cells #[.int .i64 0,.slice none 0 0] 25);rw[show(w.alloc (.cells #[.int .u64 h,.int .i64 owner,.int .i64 tag,.int .i64 off,.int .i64 len] 119)).heap.size=w.heap.size+1 by simp]at hy0;have hy0:=Lib.hid hy0;clear hb hr;go_enter Tryz.func97,Tryz.ntmps97;go_wp2_with fail;generalize hW0:(w.alloc (.cells #[.int .u64 h,.int .i64 owner,.int .i64 tag,.int .i64 off,.int .i64 len] 119)).alloc (.cells #[.int .i64 0,.slice none 0 0] 25)=W0 at*;have hlk:=Lib.hid fun w' (hm:Mod [] W0 w')=>hlk0.out w' (hm0.out.nil_then hm)
 have k1:=GW.cells (S:=[]) hb0.out (by simp);have k2:=GW.cells (S:=[]) hx0.out (by simp);refine wp_region_float 10 _ (fun w'=>∃x:GW [] W0,w'=x.1) (fun w'=>Mod [] W0 w') (by kernel_rfl) rfl rfl (by kernel_rfl) (by kernel_rfl) (fun _ h=>InGW.of h) (Mod.refl _ _).drew ?_;dsimp only[List.getElem_toArray,List.getElem_cons_succ,List.getElem_cons_zero];refine float_quiet 6 (by kernel_rfl) (by decide) ?_;simp only[tA,tB,tC,tD,Nat.reduceAdd];(repeat go_big_quiet_step (fail));refine wpQuiet_nil ?_;refine float_eff (by decide) rfl rfl ?A rfl (by simp) ?B
 case A=>
  refine Tb.eff_call_any 37 #[.pointer (some ⟨a.rt,0,none⟩),.int .i64 tag] (fun v=>∃m n k,v=.tuple #[.agg #[.int .i64 (Ty.lookT R tag).1,.slice m n k],.int .i64 (Ty.lookE R tag)]) (fun v w'=>Mod [] W0 w'∧∃u,v=.tuple #[.agg #[.int .i64 (Ty.lookT R tag).1,u],.int .i64 (Ty.lookE R tag)]∧FieldsAt w' u (Ty.lookT R tag).2) rfl Tryz.call37 rfl ⟨_,none,0,0,rfl⟩ (fun w' hw=> ?_) (fun v w' h=>InGW.of h.1) (fun v hv=> ?_)
  ·refine(hlk.out w' hw).mono ?_;rintro e w'' ⟨u,rfl,h1,h2⟩;obtain⟨um,un,uc,rfl⟩:=Ty.FieldsAt.slice h1;exact⟨_,rfl,⟨_,_,_,rfl⟩,hw.nil_then h2,_,rfl,h1⟩
  obtain⟨vm,vn,vc,rfl⟩:=hv;simp only[Act.put,sA,sB,sC];refine float_quiet 3 (by kernel_rfl) (by decide) ?_;simp only[tA,tB,tC,tD,Nat.reduceAdd];(repeat go_big_quiet_step (fail));refine wpQuiet_nil ?_;refine float_here ?_;refine stage_alloc (fun p=>.pointer (some ⟨p,0,none⟩)) (.cells #[.int .i64 0,.slice none 0 0] 25 (0,0)) (fun p w'=>Mod [] W0 w'∧W0.heap.size≤p∧w'.heap[p]? =some (.cells #[.int .i64 0,.slice none 0 0] 25 (0,0))∧FieldsAt w' (.slice vm vn vc) (Ty.lookT R tag).2) (by intro s s' h;simpa using h) rfl rfl (fun w' hw=> ?_) (fun w' hw=> ?_) (fun p w' h=>InGW.of h.1) (fun p=> ?_)
  ·kernel_rfl
  ·obtain⟨h1,u,hu,h2⟩:=hw;obtain rfl:u=.slice vm vn vc:=by simpa using hu.symm
   exact⟨h1.alloc _,h1.size,at_alloc _ _,h2.mod ((Mod.refl [] _).alloc _)⟩
  simp only[Act.put,sA,sB,sC];refine stage_set (p:=⟨p,0,none⟩) (u:=.agg #[.int .i64 (Ty.lookT R tag).1,.slice vm vn vc]) (fun w'=>(w'.setCell ⟨p,0,none⟩ (.int .i64 (Ty.lookT R tag).1)).setCell ⟨p,1,none⟩ (.slice vm vn vc)) (Typed W0 p (Ty.lookT R tag) (.slice vm vn vc)) rfl rfl rfl rfl rfl (fun w' hw=> ?_) (fun w' hw=>Typed.set hw.1 hw.2.1 hw.2.2.1 hw.2.2.2) (fun w' h=>InGW.of h.1) ?_
  ·have d1:=cells_of hw.2.2.1;have d2:=frozen_of hw.2.2.1;clear k1 k2 hw;go_simp
  refine stage_quiet 1 (by kernel_rfl) ?_;simp only[tA,tB,tC,tD];(repeat go_big_quiet_step (fail));refine wpQuiet_nil ?_;refine stage_nil fun w1 hw1=> ?_
  obtain⟨hm1,hp,hbp,hf⟩:=hw1;have hm1H:=Lib.hid (hm0.out.nil_then hm1);have hp1:=Lib.hid hbp;have hf1:=Lib.hid hf;have hy1:=Lib.hid (hm1.at hy0.out (by simp));have c1:=cells_of hbp;have c2:=cells_of (hm1.at hy0.out (by simp));have f2:=frozen_of (hm1.at hy0.out (by simp));clear k1 k2 hm1 hbp hf hp hlk hlk0 hb0 hx0 hy0 hm0;go_wp2_with fail;have u1:=at_setCell (o:=1) (v:=.slice vm vn vc) (at_setCell (o:=0) (v:=.int .i64 (Ty.lookT R tag).1) hy1.out);refine bodyPost_ret (results_cell_row Tryz.results97 _ _ (w.heap.size+1) 25 _ _ _ rfl u1 Tryz.underlying25 rfl (by kernel_rfl)) rfl ?_;refine⟨.slice vm vn vc,rfl,FieldsAt.laid hf1.out hy1.out _ _,?_⟩;exact(hm1H.out.setCell (p:=⟨w.heap.size+1,0,none⟩) (.inr (by simp)) _).setCell (p:=⟨w.heap.size+1,1,none⟩) (.inr (by simp)) _
 case B=>
  simp only[Nat.reduceSub,List.eraseIdx_cons_succ,List.eraseIdx_cons_zero];refine stage_alloc (fun p=>.pointer (some ⟨p,0,none⟩)) (.cells #[.int .i64 0,.slice none 0 0] 25 (0,0)) (fun p w'=>Mod [] W0 w'∧W0.heap.size≤p∧w'.heap[p]? =some (.cells #[.int .i64 0,.slice none 0 0] 25 (0,0))) (by intro s s' h;simpa using h) rfl rfl (fun w' hw=> ?_) (fun w' hw=>⟨hw.alloc _,hw.size,at_alloc _ _⟩) (fun p w' h=>InGW.of h.1) (fun p=> ?_)
  ·kernel_rfl
  simp only[Act.put,sA,sB,sC];refine stage_call_any 37 #[.pointer (some ⟨a.rt,0,none⟩),.int .i64 tag] (fun v=>∃m n k,v=.tuple #[.agg #[.int .i64 (Ty.lookT R tag).1,.slice m n k],.int .i64 (Ty.lookE R tag)]) (fun v w'=>Mod [] W0 w'∧W0.heap.size≤p∧w'.heap[p]? =some (.cells #[.int .i64 0,.slice none 0 0] 25 (0,0))∧∃u,v=.tuple #[.agg #[.int .i64 (Ty.lookT R tag).1,u],.int .i64 (Ty.lookE R tag)]∧FieldsAt w' u (Ty.lookT R tag).2) rfl Tryz.call37 rfl rfl ⟨_,none,0,0,rfl⟩ (fun w' hw=> ?_) (fun v w' h=>InGW.of h.1) (fun v hv=> ?_)
  ·refine(hlk.out w' hw.1).mono ?_;rintro e w'' ⟨u,rfl,h1,h2⟩;obtain⟨um,un,uc,rfl⟩:=Ty.FieldsAt.slice h1;exact⟨_,rfl,⟨_,_,_,rfl⟩,hw.1.nil_then h2,hw.2.1,h2.at hw.2.2 (by simp),_,rfl,h1⟩
  obtain⟨vm,vn,vc,rfl⟩:=hv;simp only[Act.put,sA,sB,sC];refine stage_quiet 3 (by kernel_rfl) ?_;simp only[tA,tB,tC,tD];(repeat go_big_quiet_step (fail));refine wpQuiet_nil ?_;refine stage_imp (fun w'=>Mod [] W0 w'∧W0.heap.size≤p∧w'.heap[p]? =some (.cells #[.int .i64 0,.slice none 0 0] 25 (0,0))∧FieldsAt w' (.slice vm vn vc) (Ty.lookT R tag).2) (fun w' hw=> ?_) ?_
  ·obtain⟨h1,h2,h3,u,hu,h4⟩:=hw;obtain rfl:u=.slice vm vn vc:=by simpa using hu.symm
   exact⟨h1,h2,h3,h4⟩
  refine stage_set (p:=⟨p,0,none⟩) (u:=.agg #[.int .i64 (Ty.lookT R tag).1,.slice vm vn vc]) (fun w'=>(w'.setCell ⟨p,0,none⟩ (.int .i64 (Ty.lookT R tag).1)).setCell ⟨p,1,none⟩ (.slice vm vn vc)) (Typed W0 p (Ty.lookT R tag) (.slice vm vn vc)) rfl rfl rfl rfl rfl (fun w' hw=> ?_) (fun w' hw=>Typed.set hw.1 hw.2.1 hw.2.2.1 hw.2.2.2) (fun w' h=>InGW.of h.1) ?_
  ·have d1:=cells_of hw.2.2.1;have d2:=frozen_of hw.2.2.1;clear k1 k2 hw;go_simp
  refine stage_quiet 1 (by kernel_rfl) ?_;simp only[tA,tB,tC,tD];(repeat go_big_quiet_step (fail));refine wpQuiet_nil ?_;refine stage_nil fun w1 hw1=> ?_
  obtain⟨hm1,hp,hbp,hf⟩:=hw1;have hm1H:=Lib.hid (hm0.out.nil_then hm1);have hp1:=Lib.hid hbp;have hf1:=Lib.hid hf;have hy1:=Lib.hid (hm1.at hy0.out (by simp));have c1:=cells_of hbp;have c2:=cells_of (hm1.at hy0.out (by simp));have f2:=frozen_of (hm1.at hy0.out (by simp));clear k1 k2 hm1 hbp hf hp hlk hlk0 hb0 hx0 hy0 hm0;go_wp2_with fail;have u1:=at_setCell (o:=1) (v:=.slice vm vn vc) (at_setCell (o:=0) (v:=.int .i64 (Ty.lookT R tag).1) hy1.out);refine bodyPost_ret (results_cell_row Tryz.results97 _ _ (w.heap.size+1) 25 _ _ _ rfl u1 Tryz.underlying25 rfl (by kernel_rfl)) rfl ?_;refine⟨.slice vm vn vc,rfl,FieldsAt.laid hf1.out hy1.out _ _,?_⟩;exact(hm1H.out.setCell (p:=⟨w.heap.size+1,0,none⟩) (.inr (by simp)) _).setCell (p:=⟨w.heap.size+1,1,none⟩) (.inr (by simp)) _
end Go.Proofs.YteidpgdfocjdbaaGreat
