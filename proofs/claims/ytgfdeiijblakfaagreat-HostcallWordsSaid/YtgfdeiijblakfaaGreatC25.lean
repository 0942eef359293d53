/- Joined contracts. No conditions. -/
import Derived.Test.YtgfdeiijblakfaaGreatCS
import Derived.Test.YtgfdeiijblakfaaGreatC07
import Derived.Test.YtgfdeiijblakfaaGreatC19
import Derived.Test.YtgfdeiijblakfaaGreatC23
import Derived.Test.YtgfdeiijblakfaaGreatC24
set_option maxHeartbeats 4000000
set_option maxRecDepth 20000
namespace Go.Proofs.YtgfdeiijblakfaaGreat
open Go Go.RowKit Go.Stg
open Ty (FieldsAt fields_get)
def bestV (o:Option Ext):Ext:=o.getD (0,0)
theorem better_eq {size:Int} {o:Option Ext} {x:Ext} (ho:∀b,o=some b→proper b):better size o x=(decide (size≤x.2)&&(decide ((bestV o).2=0)||decide (x.2<(bestV o).2))):=by
 unfold better bestV
 cases o with
 |none=>simp
 |some b=>
  have:=ho b rfl;unfold proper at this;have h:¬b.2=0:=by omega
  simp[h]
def findE (s:List Ext) (n:Int):Int:=if roundE n≠0 then roundE n else if bestP (roundN n) s=none then 18 else 0
def findX (s:List Ext) (n:Int):Ext:=if findE s n=0 then((bestV (bestP (roundN n) s)).1,roundN n)else(0,0)
theorem afind_ok {ab:Nat} {v mv:Value} {s:List Ext} {w:World} (hb:w.heap[ab]? =some (.cells #[v,mv] 150 (0,0))) (h:FieldsAt w v s) (hs:VS s) (n:Int):
  Calls Tryz.prog 150 #[.pointer (some ⟨ab,0,none⟩),.int .i64 n] w fun e w'=>e=.returned (.tuple #[.agg #[.int .i64 (findX s n).1,.int .i64 (findX s n).2],.int .i64 (findE s n)])∧Mod [] w w':=by
 obtain⟨va,vm,vc,rfl⟩:=exts_slice h;have hsm:=h.small;have hln:=fun ty w=>exts_len h ty w
 have hH:=Lib.hid h;have hsH:=Lib.hid hs;have hbH:=Lib.hid hb;have hal:=lt_of hb;clear h hs hb;obtain⟨rE,hrE⟩:∃r,roundE n=r:=⟨_,rfl⟩;obtain⟨rN,hrN⟩:∃r,roundN n=r:=⟨_,rfl⟩;have hro:=Lib.hid fun w=>round_ok n w
 rw[hrE,hrN]at hro;have hfE:findE s n=if rE≠0 then rE else if bestP rN s=none then 18 else 0:=by unfold findE;rw[hrE,hrN]
 have hfX:findX s n=if findE s n=0 then((bestV (bestP rN s)).1,rN)else(0,0):=by unfold findX;rw[hrN]
 generalize findX s n=fX at*;generalize findE s n=fE at*;have hfEH:=Lib.hid hfE;have hfXH:=Lib.hid hfX;have hrEH:=Lib.hid hrE;have hrNH:=Lib.hid hrN;clear hfE hfX hrE hrN;go_enter Tryz.func150,Tryz.ntmps150;go_wp2_with fail;refine(hro.out _).mono ?_;rintro e w1 ⟨rfl,hm1⟩;have hr4:=hm1.at (at_alloc w (.cells #[.int .i64 0,.int .i64 0] 139)) (by simp);have hm1H:=Lib.hid (((Mod.refl [] w).alloc (.cells #[.int .i64 0,.int .i64 0] 139)).nil_then hm1);clear hm1;have hr4w:w.heap.size≤w.heap.size:=Nat.le_refl _;generalize hr4e:w.heap.size=r4 at*;have hr4H:=Lib.hid hr4;have f4:=frozen_of hr4;have hkk:∀(W:World) (a b c d:Int),W.heap[r4]? =some (.cells #[.int .i64 a,.int .i64 b] 139 (0,0))→∀o,((W.setCell ⟨r4,0,none⟩ (.int .i64 c)).setCell ⟨r4,1,none⟩ (.int .i64 d)).cell? ⟨r4,o,none⟩=(#[.int .i64 c,.int .i64 d]:Array Value)[o]? :=fun W a b c d h=>cells_of (at_setCell (o:=1) (v:=.int .i64 d) (at_setCell (o:=0) (v:=.int .i64 c) h))
 have hkkH:=Lib.hid hkk;clear hkk;by_cases he:rE=0
 ·subst he;have hm2:=hm1H.out.alloc (.cells #[.int .i64 0,.int .i64 0] 139);have hr42:=at_alloc_old (o:=.cells #[.int .i64 0,.int .i64 0] 139) hr4;have hr8:=at_alloc w1 (.cells #[.int .i64 0,.int .i64 0] 139);have hne:r4≠w1.heap.size:=Nat.ne_of_lt (lt_of hr4);have hab2:=hm2.at hbH.out (by simp);have ka:=cells_of hab2;have hw8:w.heap.size≤w1.heap.size:=hm1H.out.size;have hm2H:=Lib.hid hm2;have hr42H:=Lib.hid hr42;have hr8H:=Lib.hid hr8;have hneH:=Lib.hid hne;clear hm2 hr42 hr8 hab2 hr4 f4 hm1H hr4H hne;go_wp2_with fail;generalize w1.alloc (.cells #[.int .i64 0,.int .i64 0] 139)=w2 at*;generalize w1.heap.size=r8 at*;clear ka;go_loopw [28] (fun i wr=>∃k:Nat,k≤s.length∧i=.int .i64 k∧Mod [] w wr∧wr.heap[r4]? =some (.cells #[.int .i64 0,.int .i64 0] 139 (0,0))∧wr.heap[r8]? =some (.cells #[.int .i64 (bestV (bestP rN (s.take k))).1,.int .i64 (bestV (bestP rN (s.take k))).2] 139 (0,0))) (fun i _=>s.length-(intOf i).toNat)
  case atStart=>exact⟨0,by omega,rfl,hm2H.out,hr42H.out,hr8H.out⟩
  case round=>
   obtain⟨k,hk,rfl,hm,q4,q8⟩:=hrel;have hmH:=Lib.hid hm;have q4H:=Lib.hid q4;have q8H:=Lib.hid q8;by_cases hlt:k<s.length
   ·obtain⟨sb,so,cap,hv,hb,c0,c1⟩:=fields_get (hH.out.mod hm) hlt;cases hv;have htk:s.take (k+1)=s.take k++[s[k]]:=by rw[List.take_add_one,List.getElem?_eq_getElem hlt];rfl
    have hbp:∀b,bestP rN (s.take k)=some b→proper b:=fun b hb'=>hsH.out.1 b (List.mem_of_mem_take (best_some hb').1)
    have hbt:=better_eq (size:=rN) (x:=s[k]) hbp;have hnx:bestP rN (s.take (k+1))=if better rN (bestP rN (s.take k)) s[k]=true then some s[k]else bestP rN (s.take k):=by rw[htk,bestP_snoc];rfl
    generalize s[k]=x at*;obtain⟨xo,xl⟩:=x;simp only at c0 c1 hbt;have k8:=cells_of (at_alloc_old (o:=.cells #[.int .i64 xo,.int .i64 xl] 139) q8);have f8:=frozen_of (at_alloc_old (o:=.cells #[.int .i64 xo,.int .i64 xl] 139) q8);have hmA:=Lib.hid (hm.alloc (.cells #[.int .i64 xo,.int .i64 xl] 139));have q4A:=Lib.hid (at_alloc_old (o:=.cells #[.int .i64 xo,.int .i64 xl] 139) q4);have q8A:=Lib.hid (at_alloc_old (o:=.cells #[.int .i64 xo,.int .i64 xl] 139) q8);have hnxH:=Lib.hid hnx;obtain⟨bo,bl,hbv⟩:∃bo bl,bestV (bestP rN (s.take k))=(bo,bl):=⟨_,_,rfl⟩;rw[hbv]at k8 hbt;clear hm q4 q8 htk hbp hnx hb;obtain⟨bt,hbte⟩:∃bt,better rN (bestP rN (s.take k)) (xo,xl)=bt:=⟨_,rfl⟩;rw[hbte]at hbt;simp only at hbt;have hbtH:=Lib.hid hbte;have hcond:(decide (xl≥rN)&&(decide (bl=0)||decide (xl<bl)))=bt:=hbt.symm;have hbtH2:=Lib.hid hbt;clear hbt hbte hcond;by_cases g1:rN≤xl<;>by_cases g2:bl=0<;>by_cases g3:xl<bl
    ·have hbt:bt=true:=by rw[hbtH2.out];simp[g1,g2]
     subst hbt;clear hbtH2;go_wp2_with fail;go_roundw
     case rel=>exact⟨k+1,by omega,by go_num,(hmA.out.setCell (p:=⟨r8,0,none⟩) (.inr (by show w.heap.size≤r8;omega)) _).setCell (p:=⟨r8,1,none⟩) (.inr (by show w.heap.size≤r8;omega)) _,at_setCell_other (at_setCell_other q4A.out hneH.out) hneH.out,by rw[hnxH.out,if_pos hbtH.out];exact at_setCell (o:=1) (at_setCell (o:=0) q8A.out)⟩
     case measure=>simp[intOf];omega
    ·have hbt:bt=true:=by rw[hbtH2.out];simp[g1,g2]
     subst hbt;clear hbtH2;go_wp2_with fail;go_roundw
     case rel=>exact⟨k+1,by omega,by go_num,(hmA.out.setCell (p:=⟨r8,0,none⟩) (.inr (by show w.heap.size≤r8;omega)) _).setCell (p:=⟨r8,1,none⟩) (.inr (by show w.heap.size≤r8;omega)) _,at_setCell_other (at_setCell_other q4A.out hneH.out) hneH.out,by rw[hnxH.out,if_pos hbtH.out];exact at_setCell (o:=1) (at_setCell (o:=0) q8A.out)⟩
     case measure=>simp[intOf];omega
    ·have hbt:bt=true:=by rw[hbtH2.out];simp[g1,g3]
     subst hbt;clear hbtH2;go_wp2_with fail;go_roundw
     case rel=>exact⟨k+1,by omega,by go_num,(hmA.out.setCell (p:=⟨r8,0,none⟩) (.inr (by show w.heap.size≤r8;omega)) _).setCell (p:=⟨r8,1,none⟩) (.inr (by show w.heap.size≤r8;omega)) _,at_setCell_other (at_setCell_other q4A.out hneH.out) hneH.out,by rw[hnxH.out,if_pos hbtH.out];exact at_setCell (o:=1) (at_setCell (o:=0) q8A.out)⟩
     case measure=>simp[intOf];omega
    ·have hbt:bt=false:=by rw[hbtH2.out];simp[g2,g3]
     subst hbt;clear hbtH2;go_wp2_with fail;go_roundw
     case rel=>exact⟨k+1,by omega,by go_num,hmA.out,q4A.out,by rw[hnxH.out,if_neg (by rw[hbtH.out];simp)];exact q8A.out⟩
     case measure=>simp[intOf];omega
    all_goals
     have hbt:bt=false:=by rw[hbtH2.out];simp[g1]
     subst hbt;clear hbtH2;go_wp2_with fail;go_roundw
     case rel=>exact⟨k+1,by omega,by go_num,hmA.out,q4A.out,by rw[hnxH.out,if_neg (by rw[hbtH.out];simp)];exact q8A.out⟩
     case measure=>simp[intOf];omega
   ·obtain rfl:k=s.length:=by omega
    rw[List.take_length]at q8;have c8:=cells_of q8;have c4:=cells_of q4;have f4:=frozen_of q4;have hfE:=hfEH.out;have hfX:=hfXH.out
    cases hbest:bestP rN s with
    |none=>
     rw[hbest]at c8 hfE hfX;have e1:bestV none=(0,0):=rfl;rw[e1]at c8;simp at hfE;rw[hfE,if_neg (by decide)]at hfX;have hk0:=hkkH.out wr 0 0 0 0 q4;have hmS:=Lib.hid ((hm.setCell (p:=⟨r4,0,none⟩) (.inr (by show w.heap.size≤r4;omega)) (.int .i64 0)).setCell (p:=⟨r4,1,none⟩) (.inr (by show w.heap.size≤r4;omega)) (.int .i64 0));subst hfE;subst hfX;clear q4 q8 hm q4H q8H;go_wp2_with fail;refine bodyPost_ret (v:=.tuple #[.agg #[.int .i64 0,.int .i64 0],.int .i64 18]) ?_ rfl ⟨rfl,hmS.out⟩;simp[results,Tryz.results150,go_sem,asAddr,hk0]
    |some b=>
     have hpb:=hsH.out.1 b (best_some hbest).1;unfold proper at hpb;rw[hbest]at c8 hfE hfX;have e1:bestV (some b)=b:=rfl;rw[e1]at c8 hfX;simp at hfE;rw[hfE,if_pos rfl]at hfX;obtain⟨bo,bl⟩:=b;simp only at c8 hfX hpb;have hbl:(bl==0)=false:=by simp;omega
     have hk0:=hkkH.out wr 0 0 bo rN q4;have hmS:=Lib.hid ((hm.setCell (p:=⟨r4,0,none⟩) (.inr (by show w.heap.size≤r4;omega)) (.int .i64 bo)).setCell (p:=⟨r4,1,none⟩) (.inr (by show w.heap.size≤r4;omega)) (.int .i64 rN));subst hfE;subst hfX;clear q4 q8 hm q4H q8H hpb;go_wp2_with fail;refine bodyPost_ret (v:=.tuple #[.agg #[.int .i64 bo,.int .i64 rN],.int .i64 0]) ?_ rfl ⟨rfl,hmS.out⟩;simp[results,Tryz.results150,go_sem,asAddr,hk0]
 ·have hz:rE≠0:=he;have hfe:fE=rE:=by rw[hfEH.out,if_pos hz]
  have hfx:fX=(0,0):=by rw[hfXH.out,if_neg (by rw[hfe];exact hz)]
  have c4:=cells_of hr4;have hk0:=hkkH.out w1 0 0 0 0 hr4;have hmS:=Lib.hid ((hm1H.out.setCell (p:=⟨r4,0,none⟩) (.inr (by show w.heap.size≤r4;omega)) (.int .i64 0)).setCell (p:=⟨r4,1,none⟩) (.inr (by show w.heap.size≤r4;omega)) (.int .i64 0));subst hfe;subst hfx;clear hr4 he;go_wp2_with fail;refine bodyPost_ret (v:=.tuple #[.agg #[.int .i64 0,.int .i64 0],.int .i64 fE]) ?_ rfl ⟨rfl,hmS.out⟩;simp[results,Tryz.results150,go_sem,asAddr,hk0]
end Go.Proofs.YtgfdeiijblakfaaGreat
namespace Go
namespace Stg
theorem run_lookup_int2 {P:Program} {t kt et:TypeId} {z:Value} (ht:P.underlying t=some (.map kt et)) (hk:P.underlying kt=some (.int .i64)) (hz:∀w,(zeroValue et).run P w=.ok z w)
  {w:World} {b:Nat} {es:Array MapEntry} {c:Nat} (hb:w.heap[b]? =some (.map es c)) (h:IKeys es.toList) (k:Int):
  (Instr.lookup t (.map (some b)) (.int .i64 k) true).run P w=.ok (.tuple #[(mget k es.toList).getD z,.bool (mget k es.toList).isSome]) w:=by
 unfold Instr.lookup;simp[run_underlying ht,run_getObj_map hb,run_checkKey_int hk,run_findKey_int hk k es.toList h]
 cases hg:mget k es.toList with
 |none=>
  have:=(mpos_none k es.toList 0 h).2 hg;simp[this,hz]
 |some v=>
  cases hp:mpos k es.toList 0 with
  |none=>have:=(mpos_none k es.toList 0 h).1 hp;rw[this]at hg;cases hg
  |some j=>simp
end Stg
end Go
namespace Go.Proofs.YtgfdeiijblakfaaGreat
open Go Go.RowKit Go.Stg
def lenAt (used:List Ext) (off:Int):Option Int:=(used.find? fun e=>decide (e.1=off)).map (·.2)
def TakenAt (w:World) (bm:Nat) (used:List Ext):Prop:=∃es c,w.heap[bm]? =some (.map es c)∧IKeys es.toList∧∀off,mget off es.toList=(lenAt used off).map (.int .i64)
theorem TakenAt.mod {S:List Nat} {w w':World} {bm:Nat} {used:List Ext} (h:TakenAt w bm used) (hm:Mod S w w') (hS:bm∉S):TakenAt w' bm used:=
 let ⟨es,c,h1,h2,h3⟩:=h;⟨es,c,hm.at h1 hS,h2,h3⟩
theorem TakenAt.look {w:World} {bm:Nat} {used:List Ext} (h:TakenAt w bm used) (k:Int):
  (Instr.lookup 89 (.map (some bm)) (.int .i64 k) true).run Tryz.prog w=.ok (.tuple #[.int .i64 ((lenAt used k).getD 0),.bool (lenAt used k).isSome]) w:=by
 obtain⟨es,c,h1,h2,h3⟩:=h;rw[run_lookup_int2 (z:=.int .i64 0) Tryz.underlying89 Tryz.underlying3 (fun w=>Tryz.zeroValue3 w) h1 h2,h3];cases lenAt used k<;>rfl
def hasB (used:List Ext) (e:Ext):Bool:=decide (lenAt used e.1=some e.2)
theorem has_ok {ab bm:Nat} {v:Value} {used:List Ext} {w:World} (hb:w.heap[ab]? =some (.cells #[v,.map (some bm)] 150 (0,0))) (ht:TakenAt w bm used) (o l:Int):
  Calls Tryz.prog 146 #[.pointer (some ⟨ab,0,none⟩),.agg #[.int .i64 o,.int .i64 l]] w fun e w'=>e=.returned (.bool (hasB used (o,l)))∧Mod [] w w':=by
 have hm:=(Mod.refl [] w).alloc (.cells #[.int .i64 o,.int .i64 l] 139);have hx:=at_alloc w (.cells #[.int .i64 o,.int .i64 l] 139);have hb2:=hm.at hb (by simp);have ht2:=ht.mod hm (by simp);have hH:∀r,lenAt used o=r→hasB used (o,l)=decide (r=some l):=fun r hr=>by unfold hasB;rw[hr]
 have hmH:=Lib.hid hm;obtain⟨r,hr⟩:∃r,lenAt used o=r:=⟨_,rfl⟩;rw[hH r hr];clear hb ht hm hH;go_enter Tryz.func146,Tryz.ntmps146;go_wp2_with fail;generalize w.heap.size=bx at*;generalize w.alloc (.cells #[.int .i64 o,.int .i64 l] 139)=W at*;have k1:=GW.cells (S:=[]) hb2 (by simp);have k2:=GW.cells (S:=[]) hx (by simp);have hlk:∀x:GW [] W,(Instr.lookup 89 (.map (some bm)) (.int .i64 o) true).run Tryz.prog x.1=.ok (.tuple #[.int .i64 ((lenAt used o).getD 0),.bool (lenAt used o).isSome]) x.1:=fun x=>(ht2.mod x.2 (by simp)).look o
 rw[hr]at hlk;clear hr ht2 hb2 hx;refine wp_region_pure (by kernel_rfl) (by kernel_rfl) ?_;refine stage_quiet 12 (by kernel_rfl) ?_;simp only[tA,tB,tC,tD];(repeat go_big_quiet_step (fail));refine wpQuiet_nil ?_;refine stage_nil fun w2 hm2=> ?_
 have hb3:=Lib.hid (hmH.out.nil_then hm2);have kx:=fun o=>k2 ⟨w2,hm2⟩ o
 simp only at kx;clear k1 k2 hlk hm2
 cases r with
 |none=>
  simp only[Option.getD_none,Option.isSome_none];go_wp2_with fail;go_ret;exact⟨by simp,hb3.out⟩
 |some a=>
  simp only[Option.getD_some,Option.isSome_some];go_wp2_with fail;go_ret;exact⟨by simp[BEq.beq],hb3.out⟩
end Go.Proofs.YtgfdeiijblakfaaGreat
namespace Go.Proofs.YtgfdeiijblakfaaGreat
open Go Go.RowKit Go.Stg
open Ty (FieldsAt fields_get fcells fcells_length fields_cells fcells_oneCell row_fields)
theorem VS.at {s:List Ext} (hs:VS s) {i j:Nat} (hij:i<j) (hj:j<s.length):s[i].1+s[i].2<s[j].1:=List.pairwise_iff_getElem.1 hs.2 i j (by omega) hj hij
end Go.Proofs.YtgfdeiijblakfaaGreat
namespace Go
namespace Stg
theorem Hold.out:∀ {cs:List Comp} {w:World} {fp:List Nat} (i:Nat) {c:Comp},Hold cs w fp→cs[i]? =some c→
  ∃f g,c.on w f∧Hold (cs.eraseIdx i) w g∧(∀x∈f,x∉g)∧∀x,x∈fp↔x∈f∨x∈g
 | [],_,_,_,_,_,hi=>by simp at hi
 |c0::cs,w,fp,0,c,⟨f,g,h1,h2,h3,e⟩,hi=>by
  obtain rfl:c0=c:=by simpa using hi
  exact⟨f,g,h1,h2,h3,fun x=>by rw[e,List.mem_append]⟩
 |c0::cs,w,fp,i+1,c,⟨f0,g,h1,h2,h3,e⟩,hi=>by
  obtain⟨f,g',k1,k2,k3,k4⟩:=Hold.out i h2 (by simpa using hi);refine⟨f,f0++g',k1,⟨f0,g',h1,k2,fun x hx hxg=>h3 x hx ((k4 x).2 (.inr hxg)),rfl⟩,fun x hx hxg=> ?_,fun x=> ?_⟩
  ·rcases List.mem_append.1 hxg with h|h
   ·exact h3 x h ((k4 x).2 (.inl hx))
   ·exact k3 x hx h
  ·rw[e,List.mem_append,List.mem_append,k4];constructor
   ·rintro(h|h|h)
    ·exact .inr (.inl h)
    ·exact .inl h
    ·exact .inr (.inr h)
   ·rintro(h|h|h)
    ·exact .inr (.inl h)
    ·exact .inl h
    ·exact .inr (.inr h)
theorem Hold.back:∀ {cs:List Comp} {w:World} {f g:List Nat} (i:Nat) {c:Comp},i<cs.length→c.on w f→Hold (cs.eraseIdx i) w g→(∀x∈f,x∉g)→
  ∃fp,Hold (cs.set i c) w fp∧∀x,x∈fp↔x∈f∨x∈g
 | [],_,_,_,_,_,hi,_,_,_=>by simp at hi
 |c0::cs,w,f,g,0,c,_,h1,h2,h3=>⟨f++g,⟨f,g,h1,h2,h3,rfl⟩,fun x=>by rw[List.mem_append]⟩
 |c0::cs,w,f,g,i+1,c,hi,h1,⟨f0,g0,k1,k2,k3,e⟩,h3=>by
  subst e;obtain⟨fp,n1,n2⟩:=Hold.back i (by simpa using hi) h1 k2 fun x hx hxg=>h3 x hx (List.mem_append_right _ hxg)
  refine⟨f0++fp,⟨f0,fp,k1,n1,fun x hx hxp=> ?_,rfl⟩,fun x=> ?_⟩
  ·rcases(n2 x).1 hxp with h|h
   ·exact h3 x h (List.mem_append_left _ hx)
   ·exact k3 x hx h
  ·rw[List.mem_append,List.mem_append,n2];constructor
   ·rintro(h|h|h)
    ·exact .inr (.inl h)
    ·exact .inl h
    ·exact .inr (.inr h)
   ·rintro(h|h|h)
    ·exact .inr (.inl h)
    ·exact .inl h
    ·exact .inr (.inr h)
section
variable {F:List Nat} {W w:World} {cs:List Comp}
theorem Scene.out (i:Nat) {c:Comp} (h:Scene F W cs w) (hi:cs[i]? =some c):Scene F W (c::cs.eraseIdx i) w:=by
 obtain⟨h1,fp,h2,h3⟩:=h;obtain⟨f,g,k1,k2,k3,k4⟩:=h2.out i hi;exact⟨h1,f++g,⟨f,g,k1,k2,k3,rfl⟩,fun x hx=>h3 x ((k4 x).2 (List.mem_append.1 hx))⟩
theorem Scene.back (i:Nat) {c:Comp} (hi:i<cs.length) (h:Scene F W (c::cs.eraseIdx i) w):Scene F W (cs.set i c) w:=by
 obtain⟨h1,fp,⟨f,g,k1,k2,k3,e⟩,h3⟩:=h;subst e;obtain⟨fp',n1,n2⟩:=Hold.back i hi k1 k2 k3;exact⟨h1,fp',n1,fun x hx=>h3 x (List.mem_append.2 ((n2 x).1 hx))⟩
theorem Scene.join2 {a b:Comp} (h:Scene F W (a::b::cs) w):Scene F W (Comp.all [a,b]::cs) w:=by
 obtain⟨h1,fp,⟨f,_,ha,⟨g,k,hb,hc,hgk,rfl⟩,hfg,rfl⟩,h3⟩:=h;refine⟨h1,_,⟨f++(g++[]),k,⟨f,g++[],ha,⟨g,[],hb,rfl,by simp,rfl⟩,fun x hx hxg=>hfg x hx (by simp at hxg;simp[hxg]),rfl⟩,hc,fun x hx hxk=> ?_,rfl⟩,fun x hx=>h3 x (by simpa[or_assoc]using hx)⟩;rcases List.mem_append.1 hx with h|h
 ·exact hfg x h (List.mem_append_right _ hxk)
 ·exact hgk x (by simpa using h) hxk
theorem Scene.split2 {a b:Comp} (h:Scene F W (Comp.all [a,b]::cs) w):Scene F W (a::b::cs) w:=by
 obtain⟨h1,fp,⟨f0,k,⟨f,g0,ha,⟨g,z,hb,hz,_,rfl⟩,hfg,rfl⟩,hc,hk,rfl⟩,h3⟩:=h;have hz':z=[]:=hz;subst hz';refine⟨h1,f++(g++k),⟨f,g++k,ha,⟨g,k,hb,hc,fun x hx hxk=>hk x (by simp[hx]) hxk,rfl⟩,fun x hx hxg=> ?_,rfl⟩,fun x hx=>h3 x (by simpa[or_assoc]using hx)⟩;rcases List.mem_append.1 hxg with h|h
 ·exact hfg x hx (by simp[h])
 ·exact hk x (by simp[hx]) h
theorem Scene.part2 {a b:Comp} (h:Scene F W (a::b::cs) w):∃f g,a.on w f∧b.on w g∧(∀x∈f,x∉g)∧∀w' f' g' a' b',Comp.on a' w' f'→Comp.on b' w' g'→(∀x∈f',x∉g')→Mod (f++g) w w'→(∀x,x∈f'∨x∈g'→(x∈f∨x∈g)∨w.heap.size≤x)→Scene F W (a'::b'::cs) w':=by
 obtain⟨h0,⟨f,g0,ha,⟨g,z,hb,hz,_,rfl⟩,hfg,rfl⟩,hk⟩:=h.join2.part 0 rfl;have hz':z=[]:=hz;subst hz';simp only[List.append_nil]at hfg hk;refine⟨f,g,ha,hb,hfg,fun w' f' g' a' b' k1 k2 k3 k4 k5=>Scene.split2 (hk w' (f'++(g'++[])) (Comp.all [a',b']) ⟨f',g'++[],k1,⟨g',[],k2,rfl,by simp,rfl⟩,fun x hx hxg=>k3 x hx (by simpa using hxg),rfl⟩ k4 fun x hx=> ?_)⟩;rcases k5 x (by simpa using hx)with h|h
 ·exact .inl (List.mem_append.2 h)
 ·exact .inr h
end
theorem Scene.two {F:List Nat} {W w:World} {cs:List Comp} (i j:Nat) {c c':Comp} (h:Scene F W cs w) (hi:cs[i]? =some c) (hj:(cs.eraseIdx i)[j]? =some c'):∃f g,c.on w f∧c'.on w g∧∀x∈f,x∉g:=by
 obtain⟨_,fp,h2,_⟩:=h;obtain⟨f,g,k1,k2,k3,_⟩:=h2.out i hi;obtain⟨f',g',n1,_,_,n4⟩:=k2.out j hj;exact⟨f,f',k1,n1,fun x hx hxf=>k3 x hx ((n4 x).2 (.inl hxf))⟩
theorem Scene.blockSet {F:List Nat} {W w:World} {cs:List Comp} (i:Nat) {b:Nat} {xs:Array Value} {T:TypeId} {fr:Nat×Nat} (h:Scene F W cs w) (hi:cs[i]? =some (blockC b (.cells xs T fr))) (o:Nat) (v:Value):
  Scene F W (cs.set i (blockC b (.cells (xs.setIfInBounds o v) T fr))) (w.setCell ⟨b,o,none⟩ v):=by
 obtain⟨f,⟨h1,hf⟩,hk⟩:=h.part i hi;subst hf;exact hk _ _ _ ⟨at_setCell h1,rfl⟩ ((Mod.refl _ w).setCell (.inl (by simp)) v) (fun x hx=>.inl hx)
theorem Scene.partB {F:List Nat} {W w:World} {cs:List Comp} (i:Nat) {c:Comp} (h:Scene F W cs w) (hi:cs[i]? =some c):
  ∃f:List Nat,c.on w f∧(∀(w':World) (f':List Nat) (c':Comp),Comp.on c' w' f'→Mod f w w'→(∀x∈f',x∈f∨w.heap.size≤x)→Scene F W (cs.set i c') w')∧∀(j b:Nat) (o:Obj),(cs.eraseIdx i)[j]? =some (blockC b o)→b∉f:=by
 obtain⟨hm,fp,hh,hf⟩:=h;obtain⟨f,g,h1,h2,h3,h4⟩:=hh.out i hi;have hlt:i<cs.length:=(List.getElem?_eq_some_iff.1 hi).1;refine⟨f,h1,fun w' f' c' k1 k2 k3=> ?_,fun j b o hj hb=> ?_⟩
 ·have hg':=h2.keep k2 fun x hx hxf=>h3 x hxf hx
  obtain⟨fp',n1,n2⟩:=Hold.back i hlt k1 hg' fun x hx hxg=>(k3 x hx).elim (fun h=>h3 x h hxg) (fun h=>by have:=h2.lt x hxg;omega)
  refine⟨hm.then k2 fun x hx=>hf x ((h4 x).2 (.inl hx)),fp',n1,fun x hx=> ?_⟩;rcases(n2 x).1 hx with h|h
  ·rcases k3 x h with h|h
   ·exact hf x ((h4 x).2 (.inl h))
   ·exact .inr (Nat.le_trans hm.size h)
  ·exact hf x ((h4 x).2 (.inr h))
 ·obtain⟨f2,⟨_,rfl⟩,k2,_⟩:=Hold.part j h2 hj;exact h3 b hb (k2 b (by simp))
theorem Hold.append:∀ {cs ds:List Comp} {w:World} {f g:List Nat},Hold cs w f→Hold ds w g→(∀x∈f,x∉g)→Hold (cs++ds) w (f++g)
 | [],_,_,_,_,h,k,_=>by subst h;exact k
 |_::_,_,_,_,g,⟨f1,f2,h1,h2,h3,e⟩,k,hd=>by
  subst e;refine⟨f1,f2++g,h1,h2.append k fun x hx=>hd x (List.mem_append_right _ hx),fun x hx hx2=> ?_,by rw[List.append_assoc]⟩;rcases List.mem_append.1 hx2 with h|h
  ·exact h3 x hx h
  ·exact hd x (List.mem_append_left _ hx) h
theorem Scene.split {F:List Nat} {W w:World} {cs ds:List Comp} (h:Scene F W (Comp.all ds::cs) w):Scene F W (ds++cs) w:=by
 obtain⟨hm,fp,⟨f,g,h1,h2,h3,e⟩,h4⟩:=h;subst e;exact⟨hm,f++g,Hold.append h1 h2 h3,h4⟩
theorem Hold.parted:∀ {ds cs:List Comp} {w:World} {fp:List Nat},Hold (ds++cs) w fp→∃f g,Hold ds w f∧Hold cs w g∧(∀x∈f,x∉g)∧fp=f++g
 | [],_,_,fp,h=>⟨[],fp,rfl,h,by simp,rfl⟩
 |_::_,_,_,_,⟨f1,f2,h1,h2,h3,e⟩=>by
  obtain⟨f,g,k1,k2,k3,k4⟩:=h2.parted;subst e k4;refine⟨f1++f,g,⟨f1,f,h1,k1,fun x hx hxf=>h3 x hx (List.mem_append_left _ hxf),rfl⟩,k2,fun x hx hxg=> ?_,(List.append_assoc _ _ _).symm⟩;rcases List.mem_append.1 hx with h|h
  ·exact h3 x h (List.mem_append_right _ hxg)
  ·exact k3 x h hxg
theorem Scene.join {F:List Nat} {W w:World} {cs:List Comp} (ds:List Comp) (h:Scene F W (ds++cs) w):Scene F W (Comp.all ds::cs) w:=by
 obtain⟨hm,fp,h2,h4⟩:=h;obtain⟨f,g,k1,k2,k3,rfl⟩:=h2.parted;exact⟨hm,f++g,⟨f,g,k1,k2,k3,rfl⟩,h4⟩
theorem Scene.imp {F:List Nat} {W w:World} {cs:List Comp} (i:Nat) {c c':Comp} (h:Scene F W cs w) (hi:cs[i]? =some c) (hc:∀g,c.on w g→c'.on w g):Scene F W (cs.set i c') w:=by
 obtain⟨f,h1,h2⟩:=h.part i hi;exact h2 w f c' (hc f h1) (Mod.refl _ _) fun _ hx=>.inl hx
theorem Scene.shut1 {F:List Nat} {W w:World} {cs:List Comp} {c:Comp} (ds:List Comp) (h:Scene F W (ds++cs) w) (hc:∀g,Hold ds w g→c.on w g):Scene F W (c::cs) w:=
 (h.join ds).imp 0 (c':=c) rfl hc
end Stg
end Go
