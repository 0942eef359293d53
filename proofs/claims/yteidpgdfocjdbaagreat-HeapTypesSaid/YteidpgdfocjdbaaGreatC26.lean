/- Joined contracts. No conditions. -/
import Derived.Test.YteidpgdfocjdbaaGreatProg
import Derived.Laws.BitsLemmas
import Derived.Laws.Bits64
import Derived.Test.YteidpgdfocjdbaaGreatCS
import Derived.Test.YteidpgdfocjdbaaGreatC05
import Derived.Test.YteidpgdfocjdbaaGreatC09
import Derived.Test.YteidpgdfocjdbaaGreatC12
import Derived.Test.YteidpgdfocjdbaaGreatC18
import Derived.Test.YteidpgdfocjdbaaGreatC19
import Derived.Test.YteidpgdfocjdbaaGreatC24
import Derived.Test.YteidpgdfocjdbaaGreatC25
set_option maxHeartbeats 2000000
set_option maxRecDepth 20000
namespace Go
namespace Stg
theorem run_lookup_int2 {P:Program} {t kt et:TypeId} {z:Value} (ht:P.underlying t=some (.map kt et)) (hk:P.underlying kt=some (.int .i64)) (hz:∀w,(zeroValue et).run P w=.ok z w)
  {w:World} {b:Nat} {es:Array MapEntry} {c:Nat} (hb:w.heap[b]? =some (.map es c)) (h:IKeys es.toList) (k:Int):
  (Instr.lookup t (.map (some b)) (.int .i64 k) true).run P w=.ok (.tuple #[(mget k es.toList).getD z,.bool (mget k es.toList).isSome]) w:=by
 unfold Instr.lookup;simp[run_underlying ht,run_getObj_map hb,run_checkKey_int hk,run_findKey_int hk k es.toList h]
 cases hg:mget k es.toList with
 |none=>
  have:=(mpos_none k es.toList 0 h).2 hg;simp[this,hz]
 |some v=>
  cases hp:mpos k es.toList 0 with
  |none=>have:=(mpos_none k es.toList 0 h).1 hp;rw[this]at hg;cases hg
  |some j=>simp
end Stg
end Go
namespace Go.Proofs.YteidpgdfocjdbaaGreat
open Go Go.RowKit Go.Stg
def lenAt (used:List Ext) (off:Int):Option Int:=(used.find? fun e=>decide (e.1=off)).map (·.2)
def TakenAt (w:World) (bm:Nat) (used:List Ext):Prop:=∃es c,w.heap[bm]? =some (.map es c)∧IKeys es.toList∧∀off,mget off es.toList=(lenAt used off).map (.int .i64)
theorem TakenAt.mod {S:List Nat} {w w':World} {bm:Nat} {used:List Ext} (h:TakenAt w bm used) (hm:Mod S w w') (hS:bm∉S):TakenAt w' bm used:=
 let ⟨es,c,h1,h2,h3⟩:=h;⟨es,c,hm.at h1 hS,h2,h3⟩
theorem TakenAt.look {w:World} {bm:Nat} {used:List Ext} (h:TakenAt w bm used) (k:Int):
  (Instr.lookup 137 (.map (some bm)) (.int .i64 k) true).run Tryz.prog w=.ok (.tuple #[.int .i64 ((lenAt used k).getD 0),.bool (lenAt used k).isSome]) w:=by
 obtain⟨es,c,h1,h2,h3⟩:=h;rw[run_lookup_int2 (z:=.int .i64 0) Tryz.underlying137 Tryz.underlying3 (fun w=>Tryz.zeroValue3 w) h1 h2,h3];cases lenAt used k<;>rfl
def hasB (used:List Ext) (e:Ext):Bool:=decide (lenAt used e.1=some e.2)
theorem has_ok {ab bm:Nat} {v:Value} {used:List Ext} {w:World} (hb:w.heap[ab]? =some (.cells #[v,.map (some bm)] 204 (0,0))) (ht:TakenAt w bm used) (o l:Int):
  Calls Tryz.prog 149 #[.pointer (some ⟨ab,0,none⟩),.agg #[.int .i64 o,.int .i64 l]] w fun e w'=>e=.returned (.bool (hasB used (o,l)))∧Mod [] w w':=by
 have hm:=(Mod.refl [] w).alloc (.cells #[.int .i64 o,.int .i64 l] 56);have hx:=at_alloc w (.cells #[.int .i64 o,.int .i64 l] 56);have hb2:=hm.at hb (by simp);have ht2:=ht.mod hm (by simp);have hH:∀r,lenAt used o=r→hasB used (o,l)=decide (r=some l):=fun r hr=>by unfold hasB;rw[hr]
 have hmH:=Lib.hid hm;obtain⟨r,hr⟩:∃r,lenAt used o=r:=⟨_,rfl⟩;rw[hH r hr];clear hb ht hm hH;go_enter Tryz.func149,Tryz.ntmps149;go_wp2_with fail;generalize w.heap.size=bx at*;generalize w.alloc (.cells #[.int .i64 o,.int .i64 l] 56)=W at*;have k1:=GW.cells (S:=[]) hb2 (by simp);have k2:=GW.cells (S:=[]) hx (by simp);have hlk:∀x:GW [] W,(Instr.lookup 137 (.map (some bm)) (.int .i64 o) true).run Tryz.prog x.1=.ok (.tuple #[.int .i64 ((lenAt used o).getD 0),.bool (lenAt used o).isSome]) x.1:=fun x=>(ht2.mod x.2 (by simp)).look o
 rw[hr]at hlk;clear hr ht2 hb2 hx;refine wp_region_pure (by kernel_rfl) (by kernel_rfl) ?_;refine stage_quiet 12 (by kernel_rfl) ?_;simp only[tA,tB,tC,tD];(repeat go_big_quiet_step (fail));refine wpQuiet_nil ?_;refine stage_nil fun w2 hm2=> ?_
 have hb3:=Lib.hid (hmH.out.nil_then hm2);have kx:=fun o=>k2 ⟨w2,hm2⟩ o
 simp only at kx;clear k1 k2 hlk hm2
 cases r with
 |none=>
  simp only[Option.getD_none,Option.isSome_none];go_wp2_with fail;go_ret;exact⟨by simp,hb3.out⟩
 |some a=>
  simp only[Option.getD_some,Option.isSome_some];go_wp2_with fail;go_ret;exact⟨by simp[BEq.beq],hb3.out⟩
end Go.Proofs.YteidpgdfocjdbaaGreat
namespace Go.Proofs.YteidpgdfocjdbaaGreat
open Go Go.RowKit Go.Stg
open Ty (FieldsAt fields_get fcells fcells_length fields_cells fcells_oneCell row_fields)
theorem VS.at {s:List Ext} (hs:VS s) {i j:Nat} (hij:i<j) (hj:j<s.length):s[i].1+s[i].2<s[j].1:=List.pairwise_iff_getElem.1 hs.2 i j (by omega) hj hij
end Go.Proofs.YteidpgdfocjdbaaGreat
namespace Go
namespace Stg
theorem Hold.out:∀ {cs:List Comp} {w:World} {fp:List Nat} (i:Nat) {c:Comp},Hold cs w fp→cs[i]? =some c→
  ∃f g,c.on w f∧Hold (cs.eraseIdx i) w g∧(∀x∈f,x∉g)∧∀x,x∈fp↔x∈f∨x∈g
 | [],_,_,_,_,_,hi=>by simp at hi
 |c0::cs,w,fp,0,c,⟨f,g,h1,h2,h3,e⟩,hi=>by
  obtain rfl:c0=c:=by simpa using hi
  exact⟨f,g,h1,h2,h3,fun x=>by rw[e,List.mem_append]⟩
 |c0::cs,w,fp,i+1,c,⟨f0,g,h1,h2,h3,e⟩,hi=>by
  obtain⟨f,g',k1,k2,k3,k4⟩:=Hold.out i h2 (by simpa using hi);refine⟨f,f0++g',k1,⟨f0,g',h1,k2,fun x hx hxg=>h3 x hx ((k4 x).2 (.inr hxg)),rfl⟩,fun x hx hxg=> ?_,fun x=> ?_⟩
  ·rcases List.mem_append.1 hxg with h|h
   ·exact h3 x h ((k4 x).2 (.inl hx))
   ·exact k3 x hx h
  ·rw[e,List.mem_append,List.mem_append,k4];constructor
   ·rintro(h|h|h)
    ·exact .inr (.inl h)
    ·exact .inl h
    ·exact .inr (.inr h)
   ·rintro(h|h|h)
    ·exact .inr (.inl h)
    ·exact .inl h
    ·exact .inr (.inr h)
theorem Hold.back:∀ {cs:List Comp} {w:World} {f g:List Nat} (i:Nat) {c:Comp},i<cs.length→c.on w f→Hold (cs.eraseIdx i) w g→(∀x∈f,x∉g)→
  ∃fp,Hold (cs.set i c) w fp∧∀x,x∈fp↔x∈f∨x∈g
 | [],_,_,_,_,_,hi,_,_,_=>by simp at hi
 |c0::cs,w,f,g,0,c,_,h1,h2,h3=>⟨f++g,⟨f,g,h1,h2,h3,rfl⟩,fun x=>by rw[List.mem_append]⟩
 |c0::cs,w,f,g,i+1,c,hi,h1,⟨f0,g0,k1,k2,k3,e⟩,h3=>by
  subst e;obtain⟨fp,n1,n2⟩:=Hold.back i (by simpa using hi) h1 k2 fun x hx hxg=>h3 x hx (List.mem_append_right _ hxg)
  refine⟨f0++fp,⟨f0,fp,k1,n1,fun x hx hxp=> ?_,rfl⟩,fun x=> ?_⟩
  ·rcases(n2 x).1 hxp with h|h
   ·exact h3 x h (List.mem_append_left _ hx)
   ·exact k3 x hx h
  ·rw[List.mem_append,List.mem_append,n2];constructor
   ·rintro(h|h|h)
    ·exact .inr (.inl h)
    ·exact .inl h
    ·exact .inr (.inr h)
   ·rintro(h|h|h)
    ·exact .inr (.inl h)
    ·exact .inl h
    ·exact .inr (.inr h)
section
variable {F:List Nat} {W w:World} {cs:List Comp}
theorem Scene.out (i:Nat) {c:Comp} (h:Scene F W cs w) (hi:cs[i]? =some c):Scene F W (c::cs.eraseIdx i) w:=by
 obtain⟨h1,fp,h2,h3⟩:=h;obtain⟨f,g,k1,k2,k3,k4⟩:=h2.out i hi;exact⟨h1,f++g,⟨f,g,k1,k2,k3,rfl⟩,fun x hx=>h3 x ((k4 x).2 (List.mem_append.1 hx))⟩
theorem Scene.back (i:Nat) {c:Comp} (hi:i<cs.length) (h:Scene F W (c::cs.eraseIdx i) w):Scene F W (cs.set i c) w:=by
 obtain⟨h1,fp,⟨f,g,k1,k2,k3,e⟩,h3⟩:=h;subst e;obtain⟨fp',n1,n2⟩:=Hold.back i hi k1 k2 k3;exact⟨h1,fp',n1,fun x hx=>h3 x (List.mem_append.2 ((n2 x).1 hx))⟩
theorem Scene.join2 {a b:Comp} (h:Scene F W (a::b::cs) w):Scene F W (Comp.all [a,b]::cs) w:=by
 obtain⟨h1,fp,⟨f,_,ha,⟨g,k,hb,hc,hgk,rfl⟩,hfg,rfl⟩,h3⟩:=h;refine⟨h1,_,⟨f++(g++[]),k,⟨f,g++[],ha,⟨g,[],hb,rfl,by simp,rfl⟩,fun x hx hxg=>hfg x hx (by simp at hxg;simp[hxg]),rfl⟩,hc,fun x hx hxk=> ?_,rfl⟩,fun x hx=>h3 x (by simpa[or_assoc]using hx)⟩;rcases List.mem_append.1 hx with h|h
 ·exact hfg x h (List.mem_append_right _ hxk)
 ·exact hgk x (by simpa using h) hxk
theorem Scene.split2 {a b:Comp} (h:Scene F W (Comp.all [a,b]::cs) w):Scene F W (a::b::cs) w:=by
 obtain⟨h1,fp,⟨f0,k,⟨f,g0,ha,⟨g,z,hb,hz,_,rfl⟩,hfg,rfl⟩,hc,hk,rfl⟩,h3⟩:=h;have hz':z=[]:=hz;subst hz';refine⟨h1,f++(g++k),⟨f,g++k,ha,⟨g,k,hb,hc,fun x hx hxk=>hk x (by simp[hx]) hxk,rfl⟩,fun x hx hxg=> ?_,rfl⟩,fun x hx=>h3 x (by simpa[or_assoc]using hx)⟩;rcases List.mem_append.1 hxg with h|h
 ·exact hfg x hx (by simp[h])
 ·exact hk x (by simp[hx]) h
theorem Scene.part2 {a b:Comp} (h:Scene F W (a::b::cs) w):∃f g,a.on w f∧b.on w g∧(∀x∈f,x∉g)∧∀w' f' g' a' b',Comp.on a' w' f'→Comp.on b' w' g'→(∀x∈f',x∉g')→Mod (f++g) w w'→(∀x,x∈f'∨x∈g'→(x∈f∨x∈g)∨w.heap.size≤x)→Scene F W (a'::b'::cs) w':=by
 obtain⟨h0,⟨f,g0,ha,⟨g,z,hb,hz,_,rfl⟩,hfg,rfl⟩,hk⟩:=h.join2.part 0 rfl;have hz':z=[]:=hz;subst hz';simp only[List.append_nil]at hfg hk;refine⟨f,g,ha,hb,hfg,fun w' f' g' a' b' k1 k2 k3 k4 k5=>Scene.split2 (hk w' (f'++(g'++[])) (Comp.all [a',b']) ⟨f',g'++[],k1,⟨g',[],k2,rfl,by simp,rfl⟩,fun x hx hxg=>k3 x hx (by simpa using hxg),rfl⟩ k4 fun x hx=> ?_)⟩;rcases k5 x (by simpa using hx)with h|h
 ·exact .inl (List.mem_append.2 h)
 ·exact .inr h
end
theorem Scene.two {F:List Nat} {W w:World} {cs:List Comp} (i j:Nat) {c c':Comp} (h:Scene F W cs w) (hi:cs[i]? =some c) (hj:(cs.eraseIdx i)[j]? =some c'):∃f g,c.on w f∧c'.on w g∧∀x∈f,x∉g:=by
 obtain⟨_,fp,h2,_⟩:=h;obtain⟨f,g,k1,k2,k3,_⟩:=h2.out i hi;obtain⟨f',g',n1,_,_,n4⟩:=k2.out j hj;exact⟨f,f',k1,n1,fun x hx hxf=>k3 x hx ((n4 x).2 (.inl hxf))⟩
theorem Scene.blockSet {F:List Nat} {W w:World} {cs:List Comp} (i:Nat) {b:Nat} {xs:Array Value} {T:TypeId} {fr:Nat×Nat} (h:Scene F W cs w) (hi:cs[i]? =some (blockC b (.cells xs T fr))) (o:Nat) (v:Value):
  Scene F W (cs.set i (blockC b (.cells (xs.setIfInBounds o v) T fr))) (w.setCell ⟨b,o,none⟩ v):=by
 obtain⟨f,⟨h1,hf⟩,hk⟩:=h.part i hi;subst hf;exact hk _ _ _ ⟨at_setCell h1,rfl⟩ ((Mod.refl _ w).setCell (.inl (by simp)) v) (fun x hx=>.inl hx)
theorem Scene.own1 {c:Comp} {w:World} {f:List Nat} (h:c.on w f):Scene f w [c] w:=Scene.start ⟨f,[],h,rfl,by simp,by simp⟩
theorem Scene.partB {F:List Nat} {W w:World} {cs:List Comp} (i:Nat) {c:Comp} (h:Scene F W cs w) (hi:cs[i]? =some c):
  ∃f:List Nat,c.on w f∧(∀(w':World) (f':List Nat) (c':Comp),Comp.on c' w' f'→Mod f w w'→(∀x∈f',x∈f∨w.heap.size≤x)→Scene F W (cs.set i c') w')∧∀(j b:Nat) (o:Obj),(cs.eraseIdx i)[j]? =some (blockC b o)→b∉f:=by
 obtain⟨hm,fp,hh,hf⟩:=h;obtain⟨f,g,h1,h2,h3,h4⟩:=hh.out i hi;have hlt:i<cs.length:=(List.getElem?_eq_some_iff.1 hi).1;refine⟨f,h1,fun w' f' c' k1 k2 k3=> ?_,fun j b o hj hb=> ?_⟩
 ·have hg':=h2.keep k2 fun x hx hxf=>h3 x hxf hx
  obtain⟨fp',n1,n2⟩:=Hold.back i hlt k1 hg' fun x hx hxg=>(k3 x hx).elim (fun h=>h3 x h hxg) (fun h=>by have:=h2.lt x hxg;omega)
  refine⟨hm.then k2 fun x hx=>hf x ((h4 x).2 (.inl hx)),fp',n1,fun x hx=> ?_⟩;rcases(n2 x).1 hx with h|h
  ·rcases k3 x h with h|h
   ·exact hf x ((h4 x).2 (.inl h))
   ·exact .inr (Nat.le_trans hm.size h)
  ·exact hf x ((h4 x).2 (.inr h))
 ·obtain⟨f2,⟨_,rfl⟩,k2,_⟩:=Hold.part j h2 hj;exact h3 b hb (k2 b (by simp))
theorem Hold.append:∀ {cs ds:List Comp} {w:World} {f g:List Nat},Hold cs w f→Hold ds w g→(∀x∈f,x∉g)→Hold (cs++ds) w (f++g)
 | [],_,_,_,_,h,k,_=>by subst h;exact k
 |_::_,_,_,_,g,⟨f1,f2,h1,h2,h3,e⟩,k,hd=>by
  subst e;refine⟨f1,f2++g,h1,h2.append k fun x hx=>hd x (List.mem_append_right _ hx),fun x hx hx2=> ?_,by rw[List.append_assoc]⟩;rcases List.mem_append.1 hx2 with h|h
  ·exact h3 x hx h
  ·exact hd x (List.mem_append_left _ hx) h
theorem Scene.split {F:List Nat} {W w:World} {cs ds:List Comp} (h:Scene F W (Comp.all ds::cs) w):Scene F W (ds++cs) w:=by
 obtain⟨hm,fp,⟨f,g,h1,h2,h3,e⟩,h4⟩:=h;subst e;exact⟨hm,f++g,Hold.append h1 h2 h3,h4⟩
theorem Hold.parted:∀ {ds cs:List Comp} {w:World} {fp:List Nat},Hold (ds++cs) w fp→∃f g,Hold ds w f∧Hold cs w g∧(∀x∈f,x∉g)∧fp=f++g
 | [],_,_,fp,h=>⟨[],fp,rfl,h,by simp,rfl⟩
 |_::_,_,_,_,⟨f1,f2,h1,h2,h3,e⟩=>by
  obtain⟨f,g,k1,k2,k3,k4⟩:=h2.parted;subst e k4;refine⟨f1++f,g,⟨f1,f,h1,k1,fun x hx hxf=>h3 x hx (List.mem_append_left _ hxf),rfl⟩,k2,fun x hx hxg=> ?_,(List.append_assoc _ _ _).symm⟩;rcases List.mem_append.1 hx with h|h
  ·exact h3 x h (List.mem_append_right _ hxg)
  ·exact k3 x h hxg
theorem Scene.join {F:List Nat} {W w:World} {cs:List Comp} (ds:List Comp) (h:Scene F W (ds++cs) w):Scene F W (Comp.all ds::cs) w:=by
 obtain⟨hm,fp,h2,h4⟩:=h;obtain⟨f,g,k1,k2,k3,rfl⟩:=h2.parted;exact⟨hm,f++g,⟨f,g,k1,k2,k3,rfl⟩,h4⟩
theorem Scene.imp {F:List Nat} {W w:World} {cs:List Comp} (i:Nat) {c c':Comp} (h:Scene F W cs w) (hi:cs[i]? =some c) (hc:∀g,c.on w g→c'.on w g):Scene F W (cs.set i c') w:=by
 obtain⟨f,h1,h2⟩:=h.part i hi;exact h2 w f c' (hc f h1) (Mod.refl _ _) fun _ hx=>.inl hx
theorem Scene.shut1 {F:List Nat} {W w:World} {cs:List Comp} {c:Comp} (ds:List Comp) (h:Scene F W (ds++cs) w) (hc:∀g,Hold ds w g→c.on w g):Scene F W (c::cs) w:=
 (h.join ds).imp 0 (c':=c) rfl hc
end Stg
end Go
namespace Go.Proofs.YteidpgdfocjdbaaGreat
open Go Go.RowKit Go.Stg
open Ty (FieldsAt fields_get fcells fcells_length fields_cells fcells_oneCell row_fields)
def takenC (bm:Nat) (used:List Ext):Comp:=
 ⟨fun w f=>TakenAt w bm used∧f=[bm],fun h hm hT=>⟨h.1.mod hm (hT bm (by rw[h.2];simp)),h.2⟩,fun h x hx=>by
  rw[h.2,List.mem_singleton]at hx;subst hx;obtain⟨_,_,h1,_⟩:=h.1;exact lt_of h1⟩
def alP (ab bm:Nat) (fv:Value) (fr used:List Ext):List Comp:=
 [blockC ab (.cells #[fv,.map (some bm)] 204 (0,0)),rowC fv fr.length 56 2 (fcells fr),takenC bm used]
def alOn (ab:Nat) (fr used:List Ext) (w:World) (f:List Nat):Prop:=∃bm fv,Hold (alP ab bm fv fr used) w f
def alC (ab:Nat) (fr used:List Ext):Comp:=⟨alOn ab fr used,fun⟨a,b,h⟩ hm hT=>⟨a,b,h.keep hm hT⟩,fun⟨_,_,h⟩=>h.lt⟩
theorem TakenAt.congr {w:World} {bm:Nat} {used used':List Ext} (h:TakenAt w bm used) (he:∀off,lenAt used off=lenAt used' off):TakenAt w bm used':=
 let ⟨es,c,h1,h2,h3⟩:=h;⟨es,c,h1,h2,fun off=>by rw[h3,he]⟩
theorem Hold.mono1 {c c':Comp} {cs:List Comp} {w:World} {f:List Nat} (i:Nat) (h:Hold cs w f) (hi:cs[i]? =some c) (hc:∀g,c.on w g→c'.on w g):Hold (cs.set i c') w f:=by
 induction cs generalizing f i with
 |nil=>simp at hi
 |cons c0 cs ih=>
  obtain⟨g,k,h1,h2,h3,e⟩:=h
  cases i with
  |zero=>
   obtain rfl:c0=c:=by simpa using hi
   exact⟨g,k,hc g h1,h2,h3,e⟩
  |succ i=>exact⟨g,k,h1,ih i h2 (by simpa using hi),h3,e⟩
theorem alC.congr {ab:Nat} {fr used used':List Ext} {w:World} {f:List Nat} (h:(alC ab fr used).on w f) (he:∀off,lenAt used off=lenAt used' off):(alC ab fr used').on w f:=
 let ⟨bm,fv,hH⟩:=h;⟨bm,fv,Hold.mono1 (cs:=alP ab bm fv fr used) 2 hH rfl fun _ hg=>⟨hg.1.congr he,hg.2⟩⟩
theorem scene_taken {F:List Nat} {W w:World} {cs:List Comp} (i:Nat) {bm:Nat} {used:List Ext} (h:Scene F W cs w) (hi:cs[i]? =some (takenC bm used)):TakenAt w bm used:=
 let ⟨_,h1,_⟩:=h.part i hi;h1.1
theorem alhas_ok {ab:Nat} {fr used:List Ext} {w:World} {f:List Nat} (h:(alC ab fr used).on w f) (o l:Int):
  Calls Tryz.prog 149 #[.pointer (some ⟨ab,0,none⟩),.agg #[.int .i64 o,.int .i64 l]] w fun e w'=>e=.returned (.bool (hasB used (o,l)))∧Mod [] w w':=by
 obtain⟨bm,fv,hH⟩:=h;have hS:=Scene.start hH;exact has_ok (hS.block 0 rfl) (scene_taken 2 hS rfl) o l
theorem alnew_ok {F:List Nat} {W w:World} {cs:List Comp} (hS:Scene F W cs w) (size:Int) (h0:0≤size) (h1:size≤1048576):
  Calls Tryz.prog 60 #[.int .i64 size] w fun e w'=>∃ab,e=.returned (.tuple #[.pointer (some ⟨ab,0,none⟩),.int .i64 0])∧Scene F W (alC ab (gap 0 size) []::cs) w':=by
 have hc:=Lib.hid (compl_nil size h0 h1 w);have hSH:=Lib.hid hS;have hmm:=fun w=>run_makeMap (P:=Tryz.prog) 137 w
 clear hS;go_enter Tryz.func60,Tryz.ntmps60;go_wp2_with fail;refine hc.out.mono ?_;rintro e w1 ⟨u,rfl,hr,hm⟩;obtain⟨ua,ul,uc,rfl⟩:=row_form hr;have hrH:=Lib.hid hr;have hmH:=Lib.hid hm;clear hr hm hc;go_wp2_with fail;go_ret2;refine⟨_,rfl,?_⟩;have hw1:=hmH.out.size;have hm2:=(hmH.out.alloc (.map #[] 0)).alloc (.cells #[.slice ua ul uc,.map (some w1.heap.size)] 204);have hb1:((w1.alloc (.map #[] 0)).alloc (.cells #[.slice ua ul uc,.map (some w1.heap.size)] 204)).heap[w1.heap.size]? =some (.map #[] 0):=at_alloc_old (at_alloc w1 _);have hb2:((w1.alloc (.map #[] 0)).alloc (.cells #[.slice ua ul uc,.map (some w1.heap.size)] 204)).heap[w1.heap.size+1]? =some (.cells #[.slice ua ul uc,.map (some w1.heap.size)] 204):=by
  have:=at_alloc (w1.alloc (.map #[] 0)) (.cells #[.slice ua ul uc,.map (some w1.heap.size)] 204);simpa using this
 have hr2:=row_mod hrH.out (((Mod.refl [] w1).alloc (.map #[] 0)).alloc (.cells #[.slice ua ul uc,.map (some w1.heap.size)] 204)) (by simp);have hlt:=hrH.out.lt;refine hSH.out.add (f:=[w1.heap.size+1]++((Value.slice ua ul uc).ownBlock.toList++([w1.heap.size]++[]))) hm2 ⟨w1.heap.size,.slice ua ul uc,[w1.heap.size+1],_,⟨hb2,rfl⟩,⟨_,_,⟨row_base hr2 (Nat.zero_le _),rfl⟩,⟨[w1.heap.size],[],⟨⟨#[],0,hb1,trivial,fun off=>rfl⟩,rfl⟩,rfl,by simp,rfl⟩,fun x hx hy=> ?_,rfl⟩,fun x hx hy=> ?_,rfl⟩ (fun x hx=> ?_)
 ·rw[Option.mem_toList]at hx;have:=hlt x hx;simp at hy;omega
 ·rw[List.mem_singleton]at hx;subst hx;simp at hy;have:=hlt _ hy;omega
 ·simp at hx;rcases hx with rfl|hx|rfl
  ·omega
  ·exact(hlt x hx).1
  ·exact hw1
end Go.Proofs.YteidpgdfocjdbaaGreat
namespace Go.Proofs.YteidpgdfocjdbaaGreat
open Go Go.RowKit Go.Stg
def BytesAt (w:World) (v:Value) (bs:List Int):Prop:=
 (v=.slice none 0 0∧bs=[])∨∃sb so cap,v=.slice (some ⟨sb,so,none⟩) bs.length cap∧sb<w.heap.size∧bs.length≤maxLen∧
  ∀i (h:i<bs.length),(0≤bs[i]∧bs[i]≤255)∧w.cell? ⟨sb,so+i,none⟩=some (.int .u8 bs[i])
theorem BytesAt.len {w0:World} {v:Value} {bs:List Int} (h:BytesAt w0 v bs) (ty:TypeId) (w:World):(Builtin.len_ #[57] ty #[v]).run Tryz.prog w=.ok (.int .i64 bs.length) w:=by
 rcases h with⟨rfl,rfl⟩|⟨sb,so,cap,rfl,_⟩<;>simp[Builtin.len_,run_underlying Tryz.underlying57,goInt]
theorem BytesAt.small {w:World} {v:Value} {bs:List Int} (h:BytesAt w v bs):bs.length≤9223372036854775807:=by
 rcases h with⟨_,rfl⟩|⟨_,_,_,_,_,h,_⟩
 ·simp
 ·exact h
def digB (d c:Int):Int:=IntKind.u64.wrap (bits .xor .u64 d c*1099511628211)
def digL (d:Int) (bs:List Int):Int:=bs.foldl digB d
theorem digL_snoc (d:Int) (bs:List Int) (c:Int):digL d (bs++[c])=digB (digL d bs) c:=by simp[digL]
theorem digadd_ok {v:Value} {bs:List Int} {w:World} (h:BytesAt w v bs) (d:Int):Calls Tryz.prog 114 #[.int .u64 d,v] w fun e w'=>e=.returned (.int .u64 (digL d bs))∧w'=w:=by
 have hln:=fun ty w=>h.len ty w
 have hsm:=h.small;have hH:=Lib.hid h;clear h;go_enter Tryz.func114,Tryz.ntmps114;go_wp2_with fail;go_loopw [9,0] (fun i dv wr=>∃k:Nat,k≤bs.length∧i=.int .i64 k∧dv=.int .u64 (digL d (bs.take k))∧wr=w) (fun i _ _=>bs.length-(intOf i).toNat)
 case atStart=>exact⟨0,by omega,rfl,rfl,rfl⟩
 case round=>
  obtain⟨k,hk,rfl,rfl,rfl⟩:=hrel;by_cases hlt:k<bs.length
  ·rcases hH.out with⟨_,rfl⟩|⟨sb,so,cap,rfl,h2,h3,h4⟩
   ·simp at hlt
   ·obtain⟨hb,hc⟩:=h4 k hlt;have htk:bs.take (k+1)=bs.take k++[bs[k]]:=by rw[List.take_add_one,List.getElem?_eq_getElem hlt];rfl
    have hdg:=digL_snoc d (bs.take k) bs[k];rw[←htk]at hdg;have hdgH:=Lib.hid hdg;clear h4 htk hdg;generalize digL d (bs.take k)=dk at*;generalize bs[k]=c at*;go_wp2_with fail;go_roundw
    case rel=>exact⟨k+1,by omega,by go_num,by rw[hdgH.out];rfl,trivial⟩
    case measure=>simp[intOf];omega
  ·obtain rfl:k=bs.length:=by omega
   rw[List.take_length];go_wp2_with fail;go_ret;exact⟨rfl,rfl⟩
theorem digsum_ok {v:Value} {bs:List Int} {w:World} (h:BytesAt w v bs):Calls Tryz.prog 116 #[v] w fun e w'=>e=.returned (.int .u64 (digL 14695981039346656037 bs))∧w'=w:=by
 have hH:=Lib.hid (digadd_ok h 14695981039346656037);generalize digL 14695981039346656037 bs=r at*;clear h;go_enter Tryz.func116,Tryz.ntmps116;go_wp2_with fail;refine hH.out.mono ?_;rintro e w1 ⟨rfl,rfl⟩;go_wp2_with fail;go_ret;exact⟨rfl,rfl⟩
end Go.Proofs.YteidpgdfocjdbaaGreat
namespace Go.Proofs.YteidpgdfocjdbaaGreat
open Go Go.RowKit Go.Stg
theorem or128:∀x:Fin 256,bits .or .u8 (x.1:Int) 128=((x.1%128+128:Nat):Int):=by decide+kernel
theorem or_more (n:Int):bits .or .u8 (n%256) 128=n%128+128:=by
 have h2:=or128 ⟨(n%256).toNat,by omega⟩;simp only at h2;rw[show(((n%256).toNat:Nat):Int)=n%256 by omega]at h2;rw[h2];omega
def bvals (bs:List Int):List Value:=bs.map (.int .u8)
theorem bvals_len (bs:List Int):(bvals bs).length=bs.length:=by simp[bvals]
theorem bvals_snoc (bs:List Int) (b:Int):bvals (bs++[b])=bvals bs++[.int .u8 b]:=by simp[bvals]
theorem bvals_one (bs:List Int):∀u∈bvals bs,u.oneCell'=true:=by
 intro u hu;obtain⟨b,_,rfl⟩:=List.mem_map.1 hu;rfl
theorem info_u8:(Tryz.prog.info? 5).map (fun i=>(i.zero,i.size,i.bytes))=some (some (.int .u8 0),1,1):=by kernel_rfl
theorem bytes_cells {w:World} {sb so cap n:Nat} {bs:List Int} (h:BytesAt w (.slice (some ⟨sb,so,none⟩) n cap) bs):∀j u,(bvals bs)[j]? =some u→w.cell? ((⟨sb,so,none⟩:Addr).add j)=some u:=by
 intro j u hu;rcases h with⟨h,_⟩|⟨sb',so',cap',h,h2,h3,h4⟩
 ·simp at h
 ·simp at h;obtain⟨⟨rfl,rfl⟩,_,_⟩:=h;obtain⟨hj,_⟩:=List.getElem?_eq_some_iff.1 hu;rw[bvals_len]at hj;rw[Ty.add_at,(h4 j hj).2];unfold bvals at hu;rw[List.getElem?_map,List.getElem?_eq_getElem hj]at hu;simpa using hu
theorem BytesAt.mod {w w':World} {v:Value} {bs:List Int} (h:BytesAt w v bs) (hm:Mod [] w w'):BytesAt w' v bs:=by
 rcases h with h|⟨sb,so,cap,rfl,h2,h3,h4⟩
 ·exact .inl h
 ·exact .inr ⟨sb,so,cap,rfl,hm.lt h2,h3,fun i hi=>⟨(h4 i hi).1,(Ty.cell_mod hm h2 (by simp)).trans (h4 i hi).2⟩⟩
theorem bclone_ok (v:Value) (bs:List Int) (hl:bs.length≤100000000) (w:World) (h:BytesAt w v bs):
  Calls Tryz.prog 138 #[v] w fun e w'=>∃v',e=.returned v'∧w'.ownsRow w.heap.size 5 1 v' bs.length (bvals bs)∧Mod [] w w':=by
 obtain⟨i0,hi0,hz0,hz1,hz2⟩:=info_parts info_u8;rcases h with⟨rfl,rfl⟩|⟨sb,so,cap,rfl,g2,g3,g4⟩
 ·have hnil:=fun w=>Lib.run_eql_slice_nil (P:=Tryz.prog) w 57 5 none 0 0 0 0 Tryz.underlying57
  go_enter Tryz.func138,Tryz.ntmps138;go_wp2_with fail;go_ret;exact⟨_,rfl,World.ownsRow_nil _ _ _ _,Mod.refl _ _⟩
 ·have hown:(w.alloc (.cells #[] 5 (0,0))).ownsRow w.heap.size 5 1 (.slice (some ⟨w.heap.size,0,none⟩) 0 0) 0 []:=World.ownsRow_made w #[] 0 (Nat.le_refl _) (Nat.zero_le _) rfl;have hmA:=(Mod.refl [] w).alloc (.cells #[] 5 (0,0));have hF:BytesAt (w.alloc (.cells #[] 5 (0,0))) (.slice (some ⟨sb,so,none⟩) bs.length cap) bs:=BytesAt.mod (.inr ⟨sb,so,cap,rfl,g2,g3,g4⟩) hmA;have hcs:=Lib.hid (bytes_cells hF);clear g4 hF;have h63:0+bs.length≤maxLen:=by unfold maxLen;omega
  have hby:(0+bs.length)*1≤140737488355328:=by omega
  have hfl:(bvals bs).length=bs.length*1:=by rw[bvals_len];omega
  have hfl:=Lib.hid hfl;have hnil:=fun w=>Lib.run_eql_slice_nil (P:=Tryz.prog) w 57 5 (some ⟨sb,so,none⟩) bs.length cap 0 0 Tryz.underlying57
  go_enter Tryz.func138,Tryz.ntmps138;go_wp2_with (at_builtin;refine wpList_append_row _ rfl _ _ 57 rfl 5 i0 (.int .u8 0) 1 1 Tryz.underlying57 hi0 hz0 hz1 hz2 rfl (by decide) (.slice (some ⟨w.heap.size,0,none⟩) 0 0) 0 [] rfl (row_base hown (Nat.zero_le _)) ⟨sb,so,none⟩ bs.length cap (bvals bs) rfl hfl.out hcs.out (bvals_one bs) h63 hby ?_;intro v' w1 hown1 hgrow hfr;simp only[Nat.zero_add,List.nil_append]at hown1;have hown1:=Lib.hid hown1;have hgrow:=Lib.hid hgrow;have hfr:=Lib.hid hfr);go_ret;refine⟨_,rfl,row_all hown1.out fun g hg=> ?_,hmA.grown hgrow.out fun k hk=>.inr ?_⟩
  ·rcases hfr.out g hg with h|h
   ·have h':some w.heap.size=some g:=h;have:=Option.some.inj h';omega
   ·simp at h;omega
  ·have hk':some w.heap.size=some k:=hk;have:=Option.some.inj hk';omega
theorem rowForm {w:World} {v:Value} {n:Nat} {xs:List Value} {b sz:Nat} {e:TypeId} (h:w.ownsRow b e sz v n xs):∃a m c,v=.slice a m c:=by
 rcases row_cases h with⟨rfl,_⟩|⟨_,_,rfl,_⟩<;>exact⟨_,_,_,rfl⟩
theorem put_ok (v:Value) (bs:List Int) (hl:bs.length≤10000000) (n:Nat) (hn:n<18446744073709551616) (w:World) (h:BytesAt w v bs):
  Calls Tryz.prog 112 #[v,.int .u64 n] w fun e w'=>∃v',e=.returned v'∧w'.ownsRow w.heap.size 5 1 v' (bs++encN n).length (bvals (bs++encN n))∧Mod [] w w':=by
 obtain⟨i0,hi0,hz0,hz1,hz2⟩:=info_parts info_u8;have hcl:=Lib.hid (bclone_ok v bs (by omega) w h);have hle:=encN_len64 hn;obtain⟨E,hE⟩:∃E,encN n=E:=⟨_,rfl⟩;rw[hE]at hle⊢;have hEH:=Lib.hid hE;clear h hE;go_enter Tryz.func112,Tryz.ntmps112;go_wp2_with fail;refine hcl.out.mono ?_;rintro e w1 ⟨v1,rfl,hr1,hm1⟩;have hr1H:=Lib.hid hr1;have hm1H:=Lib.hid hm1;clear hr1 hm1 hcl;go_wp2_with fail;go_loopw [1,5] (fun nv ov wr=>∃(m:Nat) (pre:List Int),m<18446744073709551616∧nv=.int .u64 m∧E=pre++encN m∧wr.ownsRow w.heap.size 5 1 ov (bs++pre).length (bvals (bs++pre))∧Mod [] w wr) (fun nv _ _=>(intOf nv).toNat)
 case atStart=>exact⟨n,[],hn,rfl,hEH.out.symm,by rw[List.append_nil];exact hr1H.out,hm1H.out⟩
 case round=>
  obtain⟨m,pre,hm,rfl,hp,hr,hmod⟩:=hrel;have hpl:pre.length≤10:=by rw[hp]at hle;simp at hle;omega
  obtain⟨n',hn'⟩:∃n',n'=(bs++pre).length:=⟨_,rfl⟩;have hn2:n'≤10000010:=by rw[hn'];simp;omega
  rw[←hn']at hr;have hrH:=Lib.hid hr;have hmodH:=Lib.hid hmod;have hpH:=Lib.hid hp;have hnH:=Lib.hid hn';obtain⟨oa,ol,oc,rfl⟩:=rowForm hr;by_cases hge:128≤m
  ·have hnx:=encN_more (n:=m) (by omega);have hor:=or_more (m:Int);have hgei:decide ((m:Int)≥128)=true:=by rw[decide_eq_true_eq];omega
   have hn6:=cells1 wr (.int .u8 ((m:Int)%128+128)) 5;have hn6H:=Lib.hid hn6;have hr6H:=Lib.hid (row_mod hrH.out ((Mod.refl [] wr).alloc (.cells #[.int .u8 ((m:Int)%128+128)] 5)) (by simp));have hm6H:=Lib.hid (hmodH.out.alloc (.cells #[.int .u8 ((m:Int)%128+128)] 5));have hnxH:=Lib.hid hnx;clear hn6 hnx hr hmod hp hn';go_wp2_with (at_builtin;refine wpList_append_row _ rfl _ _ 57 rfl 5 i0 (.int .u8 0) 1 1 Tryz.underlying57 hi0 hz0 hz1 hz2 rfl (by decide) (.slice oa ol oc) n' (bvals (bs++pre)) rfl (row_base hr6H.out (Nat.zero_le _)) ⟨wr.heap.size,0,none⟩ 1 1 [.int .u8 ((m:Int)%128+128)] rfl rfl hn6H.out (by simp[Value.oneCell']) (by unfold maxLen;omega) (by omega) ?_;intro v7 w7 hown7 hgrow7 hfr7;have hown7:=Lib.hid hown7;have hgrow7:=Lib.hid hgrow7;have hfr7:=Lib.hid hfr7);go_roundw
   case rel=>
    refine⟨m/128,pre++[((m%128+128:Nat):Int)],by omega,by go_num,by rw[hpH.out,hnxH.out];simp,?_,hm6H.out.grown hgrow7.out fun k hk=>.inr (hr6H.out.lt k hk).1⟩;have h1:=hown7.out;rw[hnH.out, ←List.append_assoc,bvals_snoc,List.length_append]at*;refine row_all (by simpa using h1) fun g hg=> ?_
    rcases hfr7.out g hg with h|h
    ·exact(hr6H.out.lt g h).1
    ·have:=hm6H.out.size;omega
   case measure=>simp[intOf];omega
  ·have hnx:=encN_last (n:=m) (by omega);have hgei:decide ((m:Int)≥128)=false:=by rw[decide_eq_false_iff_not];omega
   have hmod256:(m:Int)%256=m:=by omega
   have hn6:=cells1 wr (.int .u8 ((m:Int))) 5;have hn6H:=Lib.hid hn6;have hr6H:=Lib.hid (row_mod hrH.out ((Mod.refl [] wr).alloc (.cells #[.int .u8 ((m:Int))] 5)) (by simp));have hm6H:=Lib.hid (hmodH.out.alloc (.cells #[.int .u8 ((m:Int))] 5));have hnxH:=Lib.hid hnx;clear hn6 hnx hr hmod hp hn';go_wp2_with (at_builtin;refine wpList_append_row _ rfl _ _ 57 rfl 5 i0 (.int .u8 0) 1 1 Tryz.underlying57 hi0 hz0 hz1 hz2 rfl (by decide) (.slice oa ol oc) n' (bvals (bs++pre)) rfl (row_base hr6H.out (Nat.zero_le _)) ⟨wr.heap.size,0,none⟩ 1 1 [.int .u8 (m:Int)] rfl rfl hn6H.out (by simp[Value.oneCell']) (by unfold maxLen;omega) (by omega) ?_;intro v7 w7 hown7 hgrow7 hfr7;have hown7:=Lib.hid hown7;have hgrow7:=Lib.hid hgrow7;have hfr7:=Lib.hid hfr7);go_ret;refine⟨_,rfl,?_,hm6H.out.grown hgrow7.out fun k hk=>.inr (hr6H.out.lt k hk).1⟩;have h1:=hown7.out;rw[hnH.out]at h1;rw[hpH.out,hnxH.out, ←List.append_assoc,bvals_snoc,List.length_append];refine row_all (by simpa using h1) fun g hg=> ?_
   rcases hfr7.out g hg with h|h
   ·exact(hr6H.out.lt g h).1
   ·have:=hm6H.out.size;omega
end Go.Proofs.YteidpgdfocjdbaaGreat
namespace Go.Proofs.YteidpgdfocjdbaaGreat
open Go Go.RowKit Go.Stg
def evA (e:Ev):Array Value:=#[.int .i64 e.p,.int .i64 e.op,.int .u64 e.h,.int .u64 e.arg,.int .i64 e.err]
theorem evcheck_ok {e:Ev} (h:e.ok) (w:World):Calls Tryz.prog 111 #[.agg (evA e)] w fun r w'=>r=.returned (.int .i64 0)∧Mod [] w w':=by
 obtain⟨p,op,hh,arg,err⟩:=e;obtain⟨h1,h2, -, -,h5⟩:=h;simp only at h1 h2 h5;unfold evA;simp only;have p1:decide (p<1)=false:=by rw[decide_eq_false_iff_not];omega
 have p2:decide (p>64)=false:=by rw[decide_eq_false_iff_not];omega
 have e1:decide (err<0)=false:=by rw[decide_eq_false_iff_not];omega
 have e2:decide (err>29)=false:=by rw[decide_eq_false_iff_not];omega
 rcases h2 with h2|rfl|rfl
 ·have o1:decide (op≥1)=true:=by rw[decide_eq_true_eq];omega
  have o2:decide (op≤11)=true:=by rw[decide_eq_true_eq];omega
  go_enter Tryz.func111,Tryz.ntmps111;go_wp2;go_ret;exact⟨rfl,(Mod.refl _ _).alloc _⟩
 ·go_enter Tryz.func111,Tryz.ntmps111;go_wp2;go_ret;exact⟨rfl,(Mod.refl _ _).alloc _⟩
 ·go_enter Tryz.func111,Tryz.ntmps111;go_wp2;go_ret;exact⟨rfl,(Mod.refl _ _).alloc _⟩
theorem counts_ok (e:Ev) (w:World):Calls Tryz.prog 69 #[.agg (evA e)] w fun r w'=>r=.returned (.bool e.counts)∧Mod [] w w':=by
 obtain⟨p,op,hh,arg,err⟩:=e;unfold evA Ev.counts;simp only;by_cases a:op=32
 ·subst a;go_enter Tryz.func69,Tryz.ntmps69;go_wp2;go_ret;exact⟨by simp,(Mod.refl _ _).alloc _⟩
 ·by_cases b:op=33
  ·subst b;go_enter Tryz.func69,Tryz.ntmps69;go_wp2;go_ret;exact⟨by simp,(Mod.refl _ _).alloc _⟩
  ·have z1:(op != 32)=true:=by simpa using a
   have z2:(op != 33)=true:=by simpa using b
   have z3:(decide (op≠32)&&decide (op≠33))=true:=by simp[a,b]
   rw[z3];clear a b z3;go_enter Tryz.func69,Tryz.ntmps69;go_wp2;go_ret;exact⟨rfl,(Mod.refl _ _).alloc _⟩
end Go.Proofs.YteidpgdfocjdbaaGreat
