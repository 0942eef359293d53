/- Joined contracts. No conditions. -/
import Derived.Laws.BitsLemmas
import Derived.Laws.Bits64
import Derived.Deep.MidRow
import Derived.Laws.OwnMore
import Derived.Laws.Rows
import Derived.Laws.ResultCell
import Derived.Test.YtgfdeiijblakfaaGreatCS
import Derived.Test.YtgfdeiijblakfaaGreatC01
import Derived.Test.YtgfdeiijblakfaaGreatC02
import Derived.Test.YtgfdeiijblakfaaGreatC06
namespace Go.Proofs.YtgfdeiijblakfaaGreat.Tb
open Go Go.RowKit Go.Stg
section
variable {w:World} {b pb n:Nat} {sl psv:Value} {first:Int} {x:GS} (hS:GenAt w b first x.S x.F x.ret sl psv pb) (h:GInv n first x)
include hS
theorem GenPost.same {v:Value} {w':World} (hm:Mod [] w w'):GenPost v b first x.S x.F x.ret sl psv pb w (.returned v) w':=
 ⟨psv,rfl,hm.mono (by simp),hS.mod hm (by simp),fun y hy=>.inl hy⟩
theorem live_post (k:Int):Calls Tryz.prog 141 #[.pointer (some ⟨b,0,none⟩),.int .i64 k] w fun e w'=>e=.returned (.tuple #[.int .i64 (if liveN x.S k then(slotN x.S k.toNat).1 else 0),.bool (liveN x.S k)])∧Mod [] w w':=by
 rw[←liveV_eq];exact live_ok hS k
include h
theorem iss_post (hf1:1≤first) (hf2:first≤4294967295) (d:Int) (hd:0≤d) (hd2:d≤18446744073709551615):Calls Tryz.prog 128 #[.pointer (some ⟨b,0,none⟩),.int .u64 d] w (GenPost (issV first x d) b first (issG first x d).S (issG first x d).F (issG first x d).ret sl psv pb w):=by
 unfold issG issV;by_cases hn:0<x.F.length
 ·rw[dif_pos hn,if_pos hn];obtain⟨hi,hj,hp,hF,hjn,hd',hg0,hg1,hsl⟩:=h.pick hf1 hf2 hn d;rw[hsl];refine issue_some hS d hd hd2 hn _ hp hi _ hF hj hg0 hg1 _ ?_;unfold nextG;by_cases h:x.S[pickS x.F d].1=0
  ·exact .inl ⟨h,by rw[if_pos h]⟩
  ·exact .inr ⟨h,by rw[if_neg h]⟩
 ·rw[dif_neg hn,if_neg hn];refine(issue_none hS (List.length_eq_zero_iff.1 (by omega)) d).mono ?_;rintro e w' ⟨rfl,hm⟩;exact GenPost.same hS hm
end
theorem gfoot_grow {w:World} {b pb:Nat} {sl psv psv':Value} (hf:∀y,psv'.ownBlock=some y→psv.ownBlock=some y∨w.heap.size≤y):∀y∈gfoot b pb sl psv',y∈gfoot b pb sl psv∨w.heap.size≤y:=fun y hy=>by
 simp only[gfoot,List.mem_cons,List.mem_append,Option.mem_toList]at hy⊢;rcases hy with rfl|rfl|hy|hy
 ·simp
 ·simp
 ·simp[hy]
 ·rcases hf y hy with h|h
  ·exact .inl (.inr (.inr (.inr h)))
  ·exact .inr h
theorem row_lt {w:World} {base sz n:Nat} {e:TypeId} {v:Value} {xs:List Value} (h:w.ownsRow base e sz v n xs):∀g,v.ownBlock=some g→base≤g∧g<w.heap.size:=fun g hg=>by
 rcases row_cases h with⟨rfl,_⟩|⟨k,cap,rfl,h1,h2,_⟩
 ·simp[Value.ownBlock]at hg
 ·simp[Value.ownBlock]at hg;subst hg;exact⟨h1,h2⟩
theorem GenAt.foot_lt {w:World} {b pb:Nat} {first ret:Int} {S:List Slot} {F:List Int} {sl psv:Value} (h:GenAt w b first S F ret sl psv pb):∀y∈gfoot b pb sl psv,y<w.heap.size:=fun y hy=>by
 simp only[gfoot,List.mem_cons,List.mem_append,Option.mem_toList]at hy;rcases hy with rfl|rfl|hy|hy
 ·exact lt_of h.blk
 ·exact lt_of h.pool.blk
 ·exact(row_lt h.row y hy).2
 ·exact(row_lt h.pool.row y hy).2
end Go.Proofs.YtgfdeiijblakfaaGreat.Tb
namespace Go.Proofs.YtgfdeiijblakfaaGreat.Tb
open Go Go.RowKit Go.Stg
theorem SliceIn.mod {w w':World} {sv:Value} {cs:List Value} (h:SliceIn w sv cs) (hm:Mod [] w w'):SliceIn w' sv cs:=by
 rcases h with h|⟨sb,so,cap,rfl,h2,h3⟩
 ·exact .inl h
 ·exact .inr ⟨sb,so,cap,rfl,hm.lt h2,fun j u hj=>(cell_mod hm h2 (by simp)).trans (h3 j u hj)⟩
end Go.Proofs.YtgfdeiijblakfaaGreat.Tb
namespace Go.Proofs.YtgfdeiijblakfaaGreat.Tb
open Go Go.RowKit Go.Stg
theorem IntsAt.lt {w:World} {v:Value} {xs:List Int} (h:IntsAt w v xs):∀x,v.ownBlock=some x→x<w.heap.size:=fun x hx=>by
 rcases h with⟨rfl,_⟩|⟨sb,so,cap,rfl,h2,_⟩
 ·simp[Value.ownBlock]at hx
 ·simp[Value.ownBlock]at hx;omega
end Go.Proofs.YtgfdeiijblakfaaGreat.Tb
namespace Go.Proofs.YtgfdeiijblakfaaGreat.Tb
open Go Go.RowKit Go.Stg
theorem issV_some {first d:Int} {x:GS} (h:0<x.F.length):issV first x d=.tuple #[.int .i64 (pickS x.F d),.int .i64 (nextG first (slotN x.S (pickS x.F d)).1),.int .i64 0]:=if_pos h
theorem issV_none {first d:Int} {x:GS} (h:x.F=[]):issV first x d=.tuple #[.int .i64 0,.int .i64 0,.int .i64 17]:=if_neg (by simp[h])
theorem issG_some {first d:Int} {x:GS} (h:0<x.F.length):issG first x d=⟨x.S.set (pickS x.F d) (nextG first (slotN x.S (pickS x.F d)).1,true),takeAt x.F (pickI x.F d) h,x.ret⟩:=dif_pos h
theorem issG_none {first d:Int} {x:GS} (h:x.F=[]):issG first x d=x:=dif_neg (by simp[h])
end Go.Proofs.YtgfdeiijblakfaaGreat.Tb
namespace Go
namespace Stg
structure Comp where
 on:World→List Nat→Prop
 keep:∀ {w w':World} {f T:List Nat},on w f→Mod T w w'→(∀x∈f,x∉T)→on w' f
 lt:∀ {w:World} {f:List Nat},on w f→∀x∈f,x<w.heap.size
def Hold:List Comp→World→List Nat→Prop
 | [],_,fp=>fp=[]
 |c::cs,w,fp=>∃f g,c.on w f∧Hold cs w g∧(∀x∈f,x∉g)∧fp=f++g
theorem Hold.keep:∀ {cs:List Comp} {w w':World} {fp T:List Nat},Hold cs w fp→Mod T w w'→(∀x∈fp,x∉T)→Hold cs w' fp
 | [],_,_,_,_,h,_,_=>h
 |_::_,_,_,_,_,⟨f,g,h1,h2,h3,e⟩,hm,hT=>by
  subst e;exact⟨f,g,Comp.keep _ h1 hm fun x hx=>hT x (List.mem_append_left _ hx),Hold.keep h2 hm fun x hx=>hT x (List.mem_append_right _ hx),h3,rfl⟩
theorem Hold.lt:∀ {cs:List Comp} {w:World} {fp:List Nat},Hold cs w fp→∀x∈fp,x<w.heap.size
 | [],_,_,h=>by subst h;simp
 |_::_,_,_,⟨f,g,h1,h2,_,e⟩=>by
  subst e;intro x hx;rcases List.mem_append.1 hx with hx|hx
  ·exact Comp.lt _ h1 x hx
  ·exact h2.lt x hx
def Comp.all (cs:List Comp):Comp:=⟨Hold cs,Hold.keep,Hold.lt⟩
theorem Hold.part:∀ {cs:List Comp} {w:World} {fp:List Nat} (i:Nat) {c:Comp},Hold cs w fp→cs[i]? =some c→
  ∃f,c.on w f∧(∀x∈f,x∈fp)∧∀w' f' c',Comp.on c' w' f'→Mod f w w'→(∀x∈f',x∈f∨w.heap.size≤x)→∃fp',Hold (cs.set i c') w' fp'∧∀x∈fp',x∈fp∨w.heap.size≤x
 | [],_,_,_,_,_,hi=>by simp at hi
 |c0::cs,w,fp,0,c,⟨f,g,h1,h2,h3,e⟩,hi=>by
  obtain rfl:c0=c:=by simpa using hi
  subst e;refine⟨f,h1,fun x hx=>List.mem_append_left _ hx,fun w' f' c' k1 k2 k3=>⟨f'++g,⟨f',g,k1,h2.keep k2 fun x hx hxf=>h3 x hxf hx,fun x hx hxg=> ?_,rfl⟩,fun x hx=> ?_⟩⟩
  ·rcases k3 x hx with h|h
   ·exact h3 x h hxg
   ·have:=h2.lt x hxg;omega
  ·rcases List.mem_append.1 hx with hx|hx
   ·exact(k3 x hx).imp (List.mem_append_left _) id
   ·exact .inl (List.mem_append_right _ hx)
 |c0::cs,w,fp,i+1,c,⟨f0,g,h1,h2,h3,e⟩,hi=>by
  subst e;obtain⟨f,k1,k2,k3⟩:=Hold.part i h2 (by simpa using hi);refine⟨f,k1,fun x hx=>List.mem_append_right _ (k2 x hx),fun w' f' c' m1 m2 m3=> ?_⟩;obtain⟨g',n1,n2⟩:=k3 w' f' c' m1 m2 m3;refine⟨f0++g',⟨f0,g',Comp.keep _ h1 m2 fun x hx hxf=>h3 x hx (k2 x hxf),n1,fun x hx hxg=> ?_,rfl⟩,fun x hx=> ?_⟩
  ·rcases n2 x hxg with h|h
   ·exact h3 x hx h
   ·have:=Comp.lt _ h1 x hx;omega
  ·rcases List.mem_append.1 hx with hx|hx
   ·exact .inl (List.mem_append_left _ hx)
   ·exact(n2 x hx).imp (List.mem_append_right _) id
theorem Hold.erase:∀ {cs:List Comp} {w:World} {fp:List Nat} (i:Nat),Hold cs w fp→∃fp',Hold (cs.eraseIdx i) w fp'∧∀x∈fp',x∈fp
 | [],_,_,_,h=>⟨[],rfl,by simp⟩
 |_::_,_,_,0,⟨f,g,h1,h2,h3,e⟩=>⟨g,h2,fun x hx=>by subst e;exact List.mem_append_right _ hx⟩
 |_::_,_,_,i+1,⟨f,g,h1,h2,h3,e⟩=>by
  subst e;obtain⟨g',k1,k2⟩:=Hold.erase i h2;exact⟨f++g',⟨f,g',h1,k1,fun x hx hxg=>h3 x hx (k2 x hxg),rfl⟩,fun x hx=>by
   rcases List.mem_append.1 hx with hx|hx
   ·exact List.mem_append_left _ hx
   ·exact List.mem_append_right _ (k2 x hx)⟩
def Scene (F:List Nat) (W:World) (cs:List Comp) (w:World):Prop:=
 Mod F W w∧∃fp,Hold cs w fp∧∀x∈fp,x∈F∨W.heap.size≤x
section
variable {F:List Nat} {W w w':World} {cs:List Comp}
theorem Scene.mod (h:Scene F W cs w):Mod F W w:=h.1
theorem Scene.start {fp:List Nat} (h:Hold cs w fp):Scene fp w cs w:=⟨Mod.refl _ _,fp,h,fun _ hx=>.inl hx⟩
theorem Scene.empty (W:World):Scene [] W [] W:=⟨Mod.refl _ _,[],rfl,by simp⟩
theorem Scene.done (h:Scene F W cs w):∃f',Hold cs w f'∧Mod F W w∧∀x∈f',x∈F∨W.heap.size≤x:=let ⟨h1,f,h2,h3⟩:=h;⟨f,h2,h1,h3⟩
theorem Scene.part (i:Nat) {c:Comp} (h:Scene F W cs w) (hi:cs[i]? =some c):
  ∃f,c.on w f∧∀w' f' c',Comp.on c' w' f'→Mod f w w'→(∀x∈f',x∈f∨w.heap.size≤x)→Scene F W (cs.set i c') w':=by
 obtain⟨hm,fp,hh,hf⟩:=h;obtain⟨f,h1,h2,h3⟩:=Hold.part i hh hi;refine⟨f,h1,fun w' f' c' k1 k2 k3=> ?_⟩;obtain⟨fp',n1,n2⟩:=h3 w' f' c' k1 k2 k3;refine⟨hm.then k2 fun x hx=>hf x (h2 x hx),fp',n1,fun x hx=> ?_⟩;rcases n2 x hx with h|h
 ·exact hf x h
 ·exact .inr (Nat.le_trans hm.size h)
theorem Scene.then (h:Scene F W cs w) (hm:Mod [] w w'):Scene F W cs w':=
 let ⟨h1,fp,h2,h3⟩:=h;⟨h1.nil_then hm,fp,h2.keep hm (by simp),h3⟩
theorem Scene.add {c:Comp} {f:List Nat} (h:Scene F W cs w) (hm:Mod [] w w') (hc:c.on w' f) (hf:∀x∈f,w.heap.size≤x):Scene F W (c::cs) w':=by
 obtain⟨h1,fp,h2,h3⟩:=h;refine⟨h1.nil_then hm,f++fp,⟨f,fp,hc,h2.keep hm (by simp),fun x hx hxp=> ?_,rfl⟩,fun x hx=> ?_⟩
 ·have:=hf x hx;have:=h2.lt x hxp;omega
 ·rcases List.mem_append.1 hx with hx|hx
  ·exact .inr (Nat.le_trans h1.size (hf x hx))
  ·exact h3 x hx
theorem Scene.erase (i:Nat) (h:Scene F W cs w):Scene F W (cs.eraseIdx i) w:=by
 obtain⟨h1,fp,h2,h3⟩:=h;obtain⟨fp',k1,k2⟩:=h2.erase i;exact⟨h1,fp',k1,fun x hx=>h3 x (k2 x hx)⟩
theorem Scene.swap {a b:Comp} (h:Scene F W (a::b::cs) w):Scene F W (b::a::cs) w:=by
 obtain⟨h1,fp,⟨f,_,ha,⟨g,k,hb,hc,hgk,rfl⟩,hfg,rfl⟩,h3⟩:=h;refine⟨h1,g++(f++k),⟨g,f++k,hb,⟨f,k,ha,hc,fun x hx hxk=>hfg x hx (List.mem_append_right _ hxk),rfl⟩,fun x hx hxf=> ?_,rfl⟩,fun x hx=>h3 x ?_⟩
 ·rcases List.mem_append.1 hxf with h|h
  ·exact hfg x h (List.mem_append_left _ hx)
  ·exact hgk x hx h
 ·simp only[List.mem_append]at hx⊢;rcases hx with h|h|h
  ·exact .inr (.inl h)
  ·exact .inl h
  ·exact .inr (.inr h)
end
def Takes (c':Comp) (v:Value) (w:World) (f:List Nat) (e:Ending) (w':World):Prop:=
 ∃f',e=.returned v∧c'.on w' f'∧Mod f w w'∧∀x∈f',x∈f∨w.heap.size≤x
section
variable {P:Program} {fn:FuncId} {args:Array Value} {F:List Nat} {W w:World} {cs:List Comp}
theorem Scene.call (i:Nat) {c c':Comp} {v:Value} (h:Scene F W cs w) (hi:cs[i]? =some c) (hc:∀f,c.on w f→Calls P fn args w (Takes c' v w f)):
  Calls P fn args w fun e w'=>e=.returned v∧Scene F W (cs.set i c') w':=by
 obtain⟨f,h1,h2⟩:=h.part i hi;refine(hc f h1).mono ?_;rintro e w' ⟨f',he,k1,k2,k3⟩;exact⟨he,h2 w' f' c' k1 k2 k3⟩
theorem Scene.look (i:Nat) {c:Comp} {Q:Ending→World→Prop} (h:Scene F W cs w) (hi:cs[i]? =some c) (hc:∀f,c.on w f→Calls P fn args w fun e w'=>Q e w'∧Mod [] w w'):
  Calls P fn args w fun e w'=>Q e w'∧Scene F W cs w':=by
 obtain⟨f,h1,h2⟩:=h.part i hi;exact(hc f h1).mono fun e w' ⟨k1,k2⟩=>⟨k1,h.then k2⟩
end
def blockC (b:Nat) (o:Obj):Comp:=
 ⟨fun w f=>w.heap[b]? =some o∧f=[b],fun h hm hT=>⟨hm.at h.1 (hT b (by rw[h.2];simp)),h.2⟩,fun h x hx=>by rw[h.2,List.mem_singleton]at hx;subst hx;exact lt_of h.1⟩
theorem Scene.alloc {F:List Nat} {W w:World} {cs:List Comp} (h:Scene F W cs w) (o:Obj):Scene F W (blockC w.heap.size o::cs) (w.alloc o):=
 h.add (c:=blockC w.heap.size o) ((Mod.refl [] w).alloc o) ⟨at_alloc w o,rfl⟩ (by simp)
theorem Scene.block {F:List Nat} {W w:World} {cs:List Comp} (i:Nat) {b:Nat} {o:Obj} (h:Scene F W cs w) (hi:cs[i]? =some (blockC b o)):w.heap[b]? =some o:=
 let ⟨_,h1,_⟩:=h.part i hi;h1.1
def BW (b:Nat) (o:Obj):Type:={w:World//w.heap[b]? =some o}
instance BW.inst (b:Nat) (o:Obj):Nonempty (BW b o):=⟨⟨{(default:World)with heap:=Array.replicate (b+1) o},by simp⟩⟩
theorem BW.of {b:Nat} {o:Obj} {w:World} (h:w.heap[b]? =some o):∃x:BW b o,w=x.1:=⟨⟨w,h⟩,rfl⟩
theorem BW.cells {b:Nat} {cs:Array Value} {T:TypeId} {fr:Nat×Nat}:∀(x:BW b (.cells cs T fr)) o,x.1.cell? ⟨b,o,none⟩=cs[o]? :=fun x=>cells_of x.2
theorem Scene.drew {F:List Nat} {W w:World} {cs:List Comp} (h:Scene F W cs w):Scene F W cs w.drew:=h.then (Mod.refl [] w).drew
theorem wp_region_scene {P:Program} {id:Nat} {Q:Exit→Act→World→Prop} {a:Act} {F:List Nat} {W w:World} {cs:List Comp} {l:List Oper} (b:Nat) (o:Obj) (h:Scene F W cs w) (hb:∀w',Scene F W cs w'→w'.heap[b]? =some o) (hm:P.follows .mixedOrders=true) (hB:stageB .any l.toArray=true)
  (h':wpStage P l.toArray (fun w'=>∃x:BW b o,w'=x.1) (LetsOut Q) (fun a' w'=>Q .normal a' w') l (fun w'=>Scene F W cs w') a):(Code.region id l.toArray true).wp P Q a w:=
 wp_region_stage (fun w'=>∃x:BW b o,w'=x.1) (fun w'=>Scene F W cs w') hm hB (fun w' h=>BW.of (hb w' h)) h.drew h'
end Stg
end Go
namespace Go.Proofs.YtgfdeiijblakfaaGreat.Tb
open Go Go.RowKit Go.Stg
def genC (b pb:Nat) (sl:Value) (first:Int) (x:GS):Comp:=
 ⟨fun w f=>∃psv,GenAt w b first x.S x.F x.ret sl psv pb∧f=gfoot b pb sl psv,fun⟨psv,h,e⟩ hm hT=>⟨psv,h.mod hm (e▸hT),e⟩,fun⟨_,h,e⟩ x hx=>h.foot_lt x (e▸hx)⟩
theorem GenPost.takes {w:World} {b pb:Nat} {sl psv v:Value} {first:Int} {x:GS} {e:Ending} {w':World} (h:GenPost v b first x.S x.F x.ret sl psv pb w e w'):Takes (genC b pb sl first x) v w (gfoot b pb sl psv) e w':=
 let ⟨psv',he,hm,hg,hs⟩:=h;⟨_,he,⟨psv',hg,rfl⟩,hm,gfoot_grow hs⟩
section
variable {F:List Nat} {W w:World} {cs:List Comp} {n:Nat} {first:Int} {x:GS} (hI:GInv n first x) (i:Nat)
section
variable {b pb:Nat} {sl:Value} (h:Scene F W cs w) (hi:cs[i]? =some (genC b pb sl first x))
include hI h hi
theorem sc_issue (hf1:1≤first) (hf2:first≤4294967295) (d:Int) (hd:0≤d) (hd2:d≤18446744073709551615):Calls Tryz.prog 128 #[.pointer (some ⟨b,0,none⟩),.int .u64 d] w fun e w'=>e=.returned (issV first x d)∧Scene F W (cs.set i (genC b pb sl first (issG first x d))) w':=
 h.call i hi fun f ⟨psv,hg,e⟩=>by subst e;exact(iss_post hg hI hf1 hf2 d hd hd2).mono fun _ _ hp=>GenPost.takes hp
end
end
theorem sc_gen {F:List Nat} {W w:World} {cs:List Comp} (i:Nat) {b pb:Nat} {sl:Value} {first:Int} {x:GS} (h:Scene F W cs w) (hi:cs[i]? =some (genC b pb sl first x)):∃psv,GenAt w b first x.S x.F x.ret sl psv pb:=
 let ⟨_,⟨psv,h1,_⟩,_⟩:=h.part i hi;⟨psv,h1⟩
end Go.Proofs.YtgfdeiijblakfaaGreat.Tb
namespace Go.Proofs.YtgfdeiijblakfaaGreat.Tb
open Go Go.RowKit Go.Stg
def hSlot (h:Int):Int:=h%16777216
def hGen (h:Int):Int:=h/16777216%4294967296
def hTag (h:Int):Int:=h/72057594037927936
def packI (s g t:Int):Int:=t*72057594037927936+g*16777216+s
theorem wraps_u64 (n:Int) (h₀:0≤n) (h₁:n<2^64):IntKind.u64.wrap n=n:=by rw[IntKind.wrap_u64];omega
theorem and_mask (i:Nat) (hi:i≤64) (x:Int) (h0:0≤x) (h1:x≤18446744073709551615):bits .and .u64 x (2^i-1)=x%2^i:=bits_mask .u64 64 (by decide) wraps_u64 i hi x h0 (by omega)
theorem or_low (i:Nat) (x y:Int) (hx0:0≤x) (hx:x%2^i=0) (hx1:x≤18446744073709551615) (hy0:0≤y) (hy:y<2^i) (hy1:y≤18446744073709551615):bits .or .u64 y x=y+x:=by
 have h:=bits_join .u64 64 (by decide) wraps_u64 i x y hx0 hx (by omega) hy0 hy (by omega);obtain⟨a,rfl⟩:=Int.eq_ofNat_of_zero_le hx0;obtain⟨b,rfl⟩:=Int.eq_ofNat_of_zero_le hy0;rw[(bits_nat .u64 64 (by decide) wraps_u64 b a (by omega) (by omega)).2,Nat.or_comm, ←(bits_nat .u64 64 (by decide) wraps_u64 a b (by omega) (by omega)).2,h];omega
section
variable (h:Int) (h0:0≤h) (h1:h≤18446744073709551615) (w:World)
include h0 h1
theorem slot_ok:Calls Tryz.prog 103 #[.int .u64 h] w fun e w'=>e=.returned (.int .i64 (hSlot h))∧Mod [] w w':=by
 have e:=and_mask 24 (by omega) h h0 h1;simp only[Int.reducePow,Int.reduceSub]at e;unfold hSlot;go_enter Tryz.func103,Tryz.ntmps103;go_wp2_with fail;go_ret;exact⟨rfl,Mod.refl _ _⟩
theorem gen_ok:Calls Tryz.prog 142 #[.int .u64 h] w fun e w'=>e=.returned (.int .i64 (hGen h))∧Mod [] w w':=by
 have e:=and_mask 32 (by omega) (h/16777216) (by omega) (by omega);simp only[Int.reducePow,Int.reduceSub]at e;unfold hGen;go_enter Tryz.func142,Tryz.ntmps142;go_wp2_with fail;go_ret;exact⟨rfl,Mod.refl _ _⟩
theorem tag_ok:Calls Tryz.prog 143 #[.int .u64 h] w fun e w'=>e=.returned (.int .i64 (hTag h))∧Mod [] w w':=by
 go_enter Tryz.func143,Tryz.ntmps143;go_wp2_with fail;go_ret;exact⟨rfl,Mod.refl _ _⟩
end
section
variable (s g t:Int) (hs:0≤s∧s≤16777215) (hg:1≤g∧g≤4294967295) (ht:1≤t∧t≤255) (w:World)
include hs hg ht
theorem packl_ok:Calls Tryz.prog 153 #[.int .i64 s,.int .i64 g,.int .i64 t] w fun e w'=>e=.returned (.int .u64 (packI s g t))∧Mod [] w w':=by
 obtain⟨s0,s1⟩:=hs;obtain⟨g0,g1⟩:=hg;obtain⟨t0,t1⟩:=ht;have e1:=or_low 24 (g*16777216) s (by omega) (by omega) (by omega) (by omega) (by omega) (by omega);have e2:=or_low 56 (t*72057594037927936) (s+g*16777216) (by omega) (by omega) (by omega) (by omega) (by omega) (by omega);have e3:packI s g t=s+g*16777216+t*72057594037927936:=by unfold packI;omega
 rw[e3];clear e3;go_enter Tryz.func153,Tryz.ntmps153;go_wp2_with fail;go_ret;exact⟨rfl,Mod.refl _ _⟩
theorem pack_ok:Calls Tryz.prog 129 #[.int .i64 s,.int .i64 g,.int .i64 t] w fun e w'=>e=.returned (.tuple #[.int .u64 (packI s g t),.int .i64 0])∧Mod [] w w':=by
 have hP:=Lib.hid (packl_ok s g t hs hg ht w);obtain⟨s0,s1⟩:=hs;obtain⟨g0,g1⟩:=hg;obtain⟨t0,t1⟩:=ht;go_enter Tryz.func129,Tryz.ntmps129;go_wp2_with fail;refine hP.out.mono ?_;rintro e w1 ⟨rfl,hm⟩;go_wp2_with fail;go_ret2;exact⟨rfl,hm⟩
end
end Go.Proofs.YtgfdeiijblakfaaGreat.Tb
namespace Go
namespace Stg
section
variable {α:Type}
def flat (f:α→List Value) (L:List α):List Value:=L.flatMap f
theorem flat_cons (f:α→List Value) (a:α) (L:List α):flat f (a::L)=f a++flat f L:=rfl
theorem flat_append (f:α→List Value) (L M:List α):flat f (L++M)=flat f L++flat f M:=by simp[flat]
theorem flat_one (f:α→List Value) (a:α):flat f [a]=f a:=by simp[flat]
variable {f:α→List Value} {m:Nat} (hm:∀a,(f a).length=m)
include hm
theorem flat_length (L:List α):(flat f L).length=L.length*m:=by
 induction L with
 |nil=>simp[flat]
 |cons a L ih=>rw[flat_cons,List.length_append,hm,ih,List.length_cons,Nat.succ_mul];omega
theorem flat_at (L:List α):∀(j k:Nat) (hj:j<L.length),k<m→(flat f L)[j*m+k]? =(f L[j])[k]? :=by
 induction L with
 |nil=>intro j k hj;simp at hj
 |cons a L ih=>
  intro j k hj hk;rw[flat_cons]
  cases j with
  |zero=>rw[Nat.zero_mul,Nat.zero_add,List.getElem?_append_left (by rw[hm];exact hk)];rfl
  |succ j=>
   rw[List.getElem?_append_right (by rw[hm,Nat.succ_mul];omega),hm,show(j+1)*m+k-m=j*m+k by rw[Nat.succ_mul];omega];exact ih j k (by simpa using hj) hk
omit hm in
end
def splice:List Value→Nat→List Value→List Value
 |xs,_,[]=>xs
 |xs,o,v::r=>splice (xs.set o v) (o+1) r
theorem splice_at:∀(vs xs:List Value) (o i:Nat),(splice xs o vs)[i]? =if o≤i∧i<o+vs.length∧i<xs.length then vs[i-o]? else xs[i]?
 | [],xs,o,i=>by rw[if_neg (by simp;omega)];rfl
 |v::r,xs,o,i=>by
  rw[splice,splice_at r];by_cases h1:o=i
  ·subst h1;rw[if_neg (by omega)];by_cases h2:o<xs.length
   ·rw[if_pos (by simp;omega)];simp[h2]
   ·rw[if_neg (by omega),List.getElem?_eq_none (by simp;omega),List.getElem?_eq_none (by omega)]
  ·rw[List.getElem?_set_ne h1,List.length_set,List.length_cons];by_cases h2:o+1≤i∧i<o+1+r.length∧i<xs.length
   ·rw[if_pos h2,if_pos (by omega),show i-o=(i-(o+1))+1 by omega];rfl
   ·rw[if_neg h2,if_neg (by omega)]
section
variable {α:Type} {f:α→List Value} {m:Nat} (hm:∀a,(f a).length=m)
include hm
theorem flat_set (hm0:0<m) (L:List α) (j:Nat) (hj:j<L.length) (a:α):splice (flat f L) (j*m) (f a)=flat f (L.set j a):=by
 apply List.ext_getElem?;intro i;rw[splice_at,hm,flat_length hm];by_cases hi:i<L.length*m
 ·have hq:i/m<L.length:=Nat.div_lt_of_lt_mul (by rw[Nat.mul_comm];exact hi);have hr:i%m<m:=Nat.mod_lt _ hm0;have e:i/m*m+i%m=i:=Nat.div_add_mod' i m;generalize i/m=q at*;generalize i%m=r at*;have e2:=flat_at hm (L.set j a) q r (by simpa using hq) hr;have e1:=flat_at hm L q r hq hr;rw[e]at e1 e2;rw[e1,e2];by_cases hqj:q=j
  ·subst hqj;rw[if_pos ⟨by omega,by omega,hi⟩,List.getElem_set_self,show i-q*m=r by omega]
  ·rw[List.getElem_set_ne (Ne.symm hqj),if_neg];rintro⟨h1,h2,_⟩;rcases Nat.lt_or_gt_of_ne hqj with h|h
   ·have:=Nat.mul_le_mul_right m (show q+1≤j by omega);rw[Nat.succ_mul]at this;omega
   ·have:=Nat.mul_le_mul_right m (show j+1≤q by omega);rw[Nat.succ_mul]at this;omega
 ·rw[if_neg (by omega),List.getElem?_eq_none (by rw[flat_length hm];omega),List.getElem?_eq_none (by rw[flat_length hm,List.length_set];omega)]
end
theorem row_setCells {base e sz g n cap:Nat}:∀(vs xs:List Value) (o:Nat) (w:World),w.ownsRow base e sz (.slice (some ⟨g,0,none⟩) n cap) n xs→(w.setCells g o vs).ownsRow base e sz (.slice (some ⟨g,0,none⟩) n cap) n (splice xs o vs)
 | [],_,_,_,h=>h
 |v::r,xs,o,w,h=>by
  rw[World.setCells,splice];exact row_setCells r _ _ _ (h.stored o v).1
theorem Mod.setCells {S:List Nat} {a:World} {b:Nat} (hb:b∈S∨a.heap.size≤b):∀(vs:List Value) (o:Nat) (w:World),Mod S a w→Mod S a (w.setCells b o vs)
 | [],_,_,h=>h
 |v::r,o,w,h=>by
  rw[World.setCells];exact Mod.setCells hb r _ _ (h.setCell (p:=⟨b,o,none⟩) hb v)
section
variable {α:Type} {f:α→List Value} {m:Nat} (hm:∀a,(f a).length=m) {w:World} {base g n cap:Nat} {e:TypeId} {L:List α} (h:w.ownsRow base e m (.slice (some ⟨g,0,none⟩) n cap) n (flat f L)) {j:Nat} (hj:j<L.length) (hn:L.length=n)
include hm h hj hn
theorem row_cell {k:Nat} (hk:k<m):w.cell? ⟨g,j*m+k,none⟩=(f L[j])[k]? :=by
 rw[h.cellAt (j*m+k) (by subst hn;have:=Nat.mul_le_mul_right m (show j+1≤L.length by omega);rw[Nat.succ_mul]at this;omega)];exact flat_at hm L j k hj hk
theorem row_there:w.there g (j*m) m:=fun k hk=>by
 refine⟨?_,h.frozenAt _⟩;rw[row_cell hm h hj hn hk,List.getElem?_eq_getElem (by rw[hm];exact hk)];rfl
omit hn in
theorem row_put (hm0:0<m) (a:α):(w.setCells g (j*m) (f a)).ownsRow base e m (.slice (some ⟨g,0,none⟩) n cap) n (flat f (L.set j a)):=by
 rw[←flat_set hm hm0 L j hj a];exact row_setCells _ _ _ _ h
end
def rowC (v:Value) (n:Nat) (e:TypeId) (sz:Nat) (xs:List Value):Comp:=
 ⟨fun w f=>w.ownsRow 0 e sz v n xs∧f=v.ownBlock.toList,fun h hm hT=>⟨row_mod h.1 hm fun g hg=>hT g (by rw[h.2,hg];simp),h.2⟩,fun h x hx=>by rw[h.2,Option.mem_toList]at hx;exact(h.1.lt x hx).2⟩
theorem Scene.grown {F:List Nat} {W w w':World} {cs:List Comp} (i:Nat) {v v':Value} {n n' sz:Nat} {e:TypeId} {xs ys:List Value} (h:Scene F W cs w) (hi:cs[i]? =some (rowC v n e sz xs)) (h2:w'.ownsRow 0 e sz v' n' ys) (hg:w.grownBy w' v.ownBlock) (ho:∀x,v'.ownBlock=some x→v.ownBlock=some x∨w.heap.size≤x):
  Scene F W (cs.set i (rowC v' n' e sz ys)) w':=by
 obtain⟨f,⟨_,hf⟩,hk⟩:=h.part i hi;subst hf;exact hk _ _ _ ⟨h2,rfl⟩ ((Mod.refl _ w).grown hg (fun k hk=>.inl (by simp[hk]))) (fun x hx=>(ho x (by simpa using hx)).imp (fun h=>by simp[h]) id)
theorem Scene.row {F:List Nat} {W w:World} {cs:List Comp} (i:Nat) {v:Value} {n sz:Nat} {e:TypeId} {xs:List Value} (h:Scene F W cs w) (hi:cs[i]? =some (rowC v n e sz xs)):w.ownsRow 0 e sz v n xs:=
 let ⟨_,h1,_⟩:=h.part i hi;h1.1
theorem Scene.rowPut {α:Type} {f:α→List Value} {m:Nat} (hm:∀a,(f a).length=m) (hm0:0<m) {F:List Nat} {W w:World} {cs:List Comp} (i:Nat) {g cap n:Nat} {e:TypeId} {L:List α}
  (h:Scene F W cs w) (hi:cs[i]? =some (rowC (.slice (some ⟨g,0,none⟩) n cap) n e m (flat f L))) {j:Nat} (hj:j<L.length) (a:α):
  Scene F W (cs.set i (rowC (.slice (some ⟨g,0,none⟩) n cap) n e m (flat f (L.set j a)))) (w.setCells g (j*m) (f a)):=by
 obtain⟨fp,⟨h1,hf⟩,hk⟩:=h.part i hi;subst hf;exact hk _ _ _ ⟨row_put hm h1 hj hm0 a,rfl⟩ (Mod.setCells (.inl (by simp[Value.ownBlock])) _ _ _ (Mod.refl _ _)) (fun x hx=>.inl hx)
theorem made_flat {α:Type} {f:α→List Value} {m:Nat} (hm:∀a,(f a).length=m) (hm0:0<m) (a:α) (cs:Array Value) (hc:cs.toList=f a) (n:Nat):(madeCells cs (n*m)).toList=flat f (List.replicate n a):=by
 have hsz:cs.size=m:=by rw[←Array.length_toList,hc,hm]
 apply List.ext_getElem?;intro i;by_cases hi:i<n*m
 ·have hq:i/m<n:=Nat.div_lt_of_lt_mul (by rw[Nat.mul_comm];exact hi);have hr:i%m<m:=Nat.mod_lt _ hm0;have e:i/m*m+i%m=i:=Nat.div_add_mod' i m;have e1:=flat_at hm (List.replicate n a) (i/m) (i%m) (by simpa using hq) hr;rw[e]at e1;rw[e1,List.getElem_replicate, ←hc,Array.getElem?_toList];simp[madeCells,hi,hsz,hr]
 ·have hl:(madeCells cs (n*m)).toList.length=n*m:=by rw[Array.length_toList,size_madeCells]
  rw[List.getElem?_eq_none (by omega),List.getElem?_eq_none (by rw[flat_length hm];simp;omega)]
theorem ret_cell_tmp {P:Program} {fn:Func} {p u:Tmp} {ty t:TypeId} (h:fn.results=#[.cell p ty,.tmp u]) {tmps:Array Value} {w:World} {g:Nat} {cs:Array Value} {fr:Nat×Nat} {d:TypeDesc} {v:Value}
  (hp:tmps.getD p undef=.pointer (some ⟨g,0,none⟩)) (hv:tmps.getD u undef=v) (hg:w.heap[g]? =some (.cells cs t fr)) (hu:P.underlying ty=some d) (hd:(match d with| .struct _| .array _ _=>true|_=>false)=true) (hi:(P.info? ty).map (·.size)=some cs.size):
  (results fn tmps).run P w=.ok (.tuple #[.agg cs,v]) w:=by
 rw[results_cell_tmp h,hp,hv];simp[asAddr,Result.andThen,run_loadVar_row w g t ty cs fr d hg hu hd hi]
end Stg
end Go
