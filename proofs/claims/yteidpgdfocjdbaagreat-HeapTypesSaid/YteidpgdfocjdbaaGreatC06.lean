/- Joined contracts. No conditions. -/
import Derived.Deep.MidRow
import Derived.Laws.OwnMore
import Derived.Laws.Rows
import Derived.Laws.ResultCell
import Derived.Test.YteidpgdfocjdbaaGreatCS
import Derived.Test.YteidpgdfocjdbaaGreatC05
set_option maxHeartbeats 1000000
namespace Go
namespace Stg
section
variable {α:Type}
def flat (f:α→List Value) (L:List α):List Value:=L.flatMap f
theorem flat_cons (f:α→List Value) (a:α) (L:List α):flat f (a::L)=f a++flat f L:=rfl
theorem flat_append (f:α→List Value) (L M:List α):flat f (L++M)=flat f L++flat f M:=by simp[flat]
theorem flat_one (f:α→List Value) (a:α):flat f [a]=f a:=by simp[flat]
variable {f:α→List Value} {m:Nat} (hm:∀a,(f a).length=m)
include hm
theorem flat_length (L:List α):(flat f L).length=L.length*m:=by
 induction L with
 |nil=>simp[flat]
 |cons a L ih=>rw[flat_cons,List.length_append,hm,ih,List.length_cons,Nat.succ_mul];omega
theorem flat_at (L:List α):∀(j k:Nat) (hj:j<L.length),k<m→(flat f L)[j*m+k]? =(f L[j])[k]? :=by
 induction L with
 |nil=>intro j k hj;simp at hj
 |cons a L ih=>
  intro j k hj hk;rw[flat_cons]
  cases j with
  |zero=>rw[Nat.zero_mul,Nat.zero_add,List.getElem?_append_left (by rw[hm];exact hk)];rfl
  |succ j=>
   rw[List.getElem?_append_right (by rw[hm,Nat.succ_mul];omega),hm,show(j+1)*m+k-m=j*m+k by rw[Nat.succ_mul];omega];exact ih j k (by simpa using hj) hk
omit hm in
end
def splice:List Value→Nat→List Value→List Value
 |xs,_,[]=>xs
 |xs,o,v::r=>splice (xs.set o v) (o+1) r
theorem splice_at:∀(vs xs:List Value) (o i:Nat),(splice xs o vs)[i]? =if o≤i∧i<o+vs.length∧i<xs.length then vs[i-o]? else xs[i]?
 | [],xs,o,i=>by rw[if_neg (by simp;omega)];rfl
 |v::r,xs,o,i=>by
  rw[splice,splice_at r];by_cases h1:o=i
  ·subst h1;rw[if_neg (by omega)];by_cases h2:o<xs.length
   ·rw[if_pos (by simp;omega)];simp[h2]
   ·rw[if_neg (by omega),List.getElem?_eq_none (by simp;omega),List.getElem?_eq_none (by omega)]
  ·rw[List.getElem?_set_ne h1,List.length_set,List.length_cons];by_cases h2:o+1≤i∧i<o+1+r.length∧i<xs.length
   ·rw[if_pos h2,if_pos (by omega),show i-o=(i-(o+1))+1 by omega];rfl
   ·rw[if_neg h2,if_neg (by omega)]
section
variable {α:Type} {f:α→List Value} {m:Nat} (hm:∀a,(f a).length=m)
include hm
theorem flat_set (hm0:0<m) (L:List α) (j:Nat) (hj:j<L.length) (a:α):splice (flat f L) (j*m) (f a)=flat f (L.set j a):=by
 apply List.ext_getElem?;intro i;rw[splice_at,hm,flat_length hm];by_cases hi:i<L.length*m
 ·have hq:i/m<L.length:=Nat.div_lt_of_lt_mul (by rw[Nat.mul_comm];exact hi);have hr:i%m<m:=Nat.mod_lt _ hm0;have e:i/m*m+i%m=i:=Nat.div_add_mod' i m;generalize i/m=q at*;generalize i%m=r at*;have e2:=flat_at hm (L.set j a) q r (by simpa using hq) hr;have e1:=flat_at hm L q r hq hr;rw[e]at e1 e2;rw[e1,e2];by_cases hqj:q=j
  ·subst hqj;rw[if_pos ⟨by omega,by omega,hi⟩,List.getElem_set_self,show i-q*m=r by omega]
  ·rw[List.getElem_set_ne (Ne.symm hqj),if_neg];rintro⟨h1,h2,_⟩;rcases Nat.lt_or_gt_of_ne hqj with h|h
   ·have:=Nat.mul_le_mul_right m (show q+1≤j by omega);rw[Nat.succ_mul]at this;omega
   ·have:=Nat.mul_le_mul_right m (show j+1≤q by omega);rw[Nat.succ_mul]at this;omega
 ·rw[if_neg (by omega),List.getElem?_eq_none (by rw[flat_length hm];omega),List.getElem?_eq_none (by rw[flat_length hm,List.length_set];omega)]
end
theorem row_setCells {base e sz g n cap:Nat}:∀(vs xs:List Value) (o:Nat) (w:World),w.ownsRow base e sz (.slice (some ⟨g,0,none⟩) n cap) n xs→(w.setCells g o vs).ownsRow base e sz (.slice (some ⟨g,0,none⟩) n cap) n (splice xs o vs)
 | [],_,_,_,h=>h
 |v::r,xs,o,w,h=>by
  rw[World.setCells,splice];exact row_setCells r _ _ _ (h.stored o v).1
theorem Mod.setCells {S:List Nat} {a:World} {b:Nat} (hb:b∈S∨a.heap.size≤b):∀(vs:List Value) (o:Nat) (w:World),Mod S a w→Mod S a (w.setCells b o vs)
 | [],_,_,h=>h
 |v::r,o,w,h=>by
  rw[World.setCells];exact Mod.setCells hb r _ _ (h.setCell (p:=⟨b,o,none⟩) hb v)
section
variable {α:Type} {f:α→List Value} {m:Nat} (hm:∀a,(f a).length=m) {w:World} {base g n cap:Nat} {e:TypeId} {L:List α} (h:w.ownsRow base e m (.slice (some ⟨g,0,none⟩) n cap) n (flat f L)) {j:Nat} (hj:j<L.length) (hn:L.length=n)
include hm h hj hn
theorem row_cell {k:Nat} (hk:k<m):w.cell? ⟨g,j*m+k,none⟩=(f L[j])[k]? :=by
 rw[h.cellAt (j*m+k) (by subst hn;have:=Nat.mul_le_mul_right m (show j+1≤L.length by omega);rw[Nat.succ_mul]at this;omega)];exact flat_at hm L j k hj hk
theorem row_there:w.there g (j*m) m:=fun k hk=>by
 refine⟨?_,h.frozenAt _⟩;rw[row_cell hm h hj hn hk,List.getElem?_eq_getElem (by rw[hm];exact hk)];rfl
omit hn in
theorem row_put (hm0:0<m) (a:α):(w.setCells g (j*m) (f a)).ownsRow base e m (.slice (some ⟨g,0,none⟩) n cap) n (flat f (L.set j a)):=by
 rw[←flat_set hm hm0 L j hj a];exact row_setCells _ _ _ _ h
end
def rowC (v:Value) (n:Nat) (e:TypeId) (sz:Nat) (xs:List Value):Comp:=
 ⟨fun w f=>w.ownsRow 0 e sz v n xs∧f=v.ownBlock.toList,fun h hm hT=>⟨row_mod h.1 hm fun g hg=>hT g (by rw[h.2,hg];simp),h.2⟩,fun h x hx=>by rw[h.2,Option.mem_toList]at hx;exact(h.1.lt x hx).2⟩
theorem Scene.grown {F:List Nat} {W w w':World} {cs:List Comp} (i:Nat) {v v':Value} {n n' sz:Nat} {e:TypeId} {xs ys:List Value} (h:Scene F W cs w) (hi:cs[i]? =some (rowC v n e sz xs)) (h2:w'.ownsRow 0 e sz v' n' ys) (hg:w.grownBy w' v.ownBlock) (ho:∀x,v'.ownBlock=some x→v.ownBlock=some x∨w.heap.size≤x):
  Scene F W (cs.set i (rowC v' n' e sz ys)) w':=by
 obtain⟨f,⟨_,hf⟩,hk⟩:=h.part i hi;subst hf;exact hk _ _ _ ⟨h2,rfl⟩ ((Mod.refl _ w).grown hg (fun k hk=>.inl (by simp[hk]))) (fun x hx=>(ho x (by simpa using hx)).imp (fun h=>by simp[h]) id)
theorem Scene.row {F:List Nat} {W w:World} {cs:List Comp} (i:Nat) {v:Value} {n sz:Nat} {e:TypeId} {xs:List Value} (h:Scene F W cs w) (hi:cs[i]? =some (rowC v n e sz xs)):w.ownsRow 0 e sz v n xs:=
 let ⟨_,h1,_⟩:=h.part i hi;h1.1
theorem Scene.rowPut {α:Type} {f:α→List Value} {m:Nat} (hm:∀a,(f a).length=m) (hm0:0<m) {F:List Nat} {W w:World} {cs:List Comp} (i:Nat) {g cap n:Nat} {e:TypeId} {L:List α}
  (h:Scene F W cs w) (hi:cs[i]? =some (rowC (.slice (some ⟨g,0,none⟩) n cap) n e m (flat f L))) {j:Nat} (hj:j<L.length) (a:α):
  Scene F W (cs.set i (rowC (.slice (some ⟨g,0,none⟩) n cap) n e m (flat f (L.set j a)))) (w.setCells g (j*m) (f a)):=by
 obtain⟨fp,⟨h1,hf⟩,hk⟩:=h.part i hi;subst hf;exact hk _ _ _ ⟨row_put hm h1 hj hm0 a,rfl⟩ (Mod.setCells (.inl (by simp[Value.ownBlock])) _ _ _ (Mod.refl _ _)) (fun x hx=>.inl hx)
theorem made_flat {α:Type} {f:α→List Value} {m:Nat} (hm:∀a,(f a).length=m) (hm0:0<m) (a:α) (cs:Array Value) (hc:cs.toList=f a) (n:Nat):(madeCells cs (n*m)).toList=flat f (List.replicate n a):=by
 have hsz:cs.size=m:=by rw[←Array.length_toList,hc,hm]
 apply List.ext_getElem?;intro i;by_cases hi:i<n*m
 ·have hq:i/m<n:=Nat.div_lt_of_lt_mul (by rw[Nat.mul_comm];exact hi);have hr:i%m<m:=Nat.mod_lt _ hm0;have e:i/m*m+i%m=i:=Nat.div_add_mod' i m;have e1:=flat_at hm (List.replicate n a) (i/m) (i%m) (by simpa using hq) hr;rw[e]at e1;rw[e1,List.getElem_replicate, ←hc,Array.getElem?_toList];simp[madeCells,hi,hsz,hr]
 ·have hl:(madeCells cs (n*m)).toList.length=n*m:=by rw[Array.length_toList,size_madeCells]
  rw[List.getElem?_eq_none (by omega),List.getElem?_eq_none (by rw[flat_length hm];simp;omega)]
theorem ret_cell_tmp {P:Program} {fn:Func} {p u:Tmp} {ty t:TypeId} (h:fn.results=#[.cell p ty,.tmp u]) {tmps:Array Value} {w:World} {g:Nat} {cs:Array Value} {fr:Nat×Nat} {d:TypeDesc} {v:Value}
  (hp:tmps.getD p undef=.pointer (some ⟨g,0,none⟩)) (hv:tmps.getD u undef=v) (hg:w.heap[g]? =some (.cells cs t fr)) (hu:P.underlying ty=some d) (hd:(match d with| .struct _| .array _ _=>true|_=>false)=true) (hi:(P.info? ty).map (·.size)=some cs.size):
  (results fn tmps).run P w=.ok (.tuple #[.agg cs,v]) w:=by
 rw[results_cell_tmp h,hp,hv];simp[asAddr,Result.andThen,run_loadVar_row w g t ty cs fr d hg hu hd hi]
end Stg
end Go
namespace Go.Proofs.YteidpgdfocjdbaaGreat.Tb
open Go Go.RowKit Go.Stg
theorem hSlot_pack {s g t:Int} (hs:0≤s∧s≤16777215):hSlot (packI s g t)=s:=by unfold hSlot packI;omega
theorem hGen_pack {s g t:Int} (hs:0≤s∧s≤16777215) (hg:1≤g∧g≤4294967295):hGen (packI s g t)=g:=by unfold hGen packI;omega
theorem hTag_pack {s g t:Int} (hs:0≤s∧s≤16777215) (hg:1≤g∧g≤4294967295):hTag (packI s g t)=t:=by unfold hTag packI;omega
theorem pack_parts (h:Int):packI (hSlot h) (hGen h) (hTag h)=h:=by unfold packI hSlot hGen hTag;omega
structure Ent where
 h:Int
 owner:Int
 tag:Int
 off:Int
 len:Int
def ent (e:Ent):List Value:=[.int .u64 e.h,.int .i64 e.owner,.int .i64 e.tag,.int .i64 e.off,.int .i64 e.len]
theorem ent_length (e:Ent):(ent e).length=5:=rfl
def entV (e:Ent):Value:=.agg #[.int .u64 e.h,.int .i64 e.owner,.int .i64 e.tag,.int .i64 e.off,.int .i64 e.len]
def ent0:Ent:=⟨0,0,0,0,0⟩
def entN (E:List Ent) (j:Nat):Ent:=E.getD j ent0
theorem entN_at {E:List Ent} {j:Nat} (h:j<E.length):entN E j=E[j]:=by simp[entN,List.getD_eq_getElem?_getD,List.getElem?_eq_getElem h]
structure TS where
 g:GS
 E:List Ent
structure TInv (n:Nat) (first:Int) (x:TS):Prop where
 g:GInv n first x.g
 len:x.E.length=n
 ok:∀j,j<n→(slotN x.g.S j).2=true→(1≤(entN x.E j).tag∧(entN x.E j).tag≤255)∧(entN x.E j).h=packI j (slotN x.g.S j).1 (entN x.E j).tag
def Agree (x:TS) (E:List Ent):Prop:=E.length=x.E.length∧∀j,(slotN x.g.S j).2=true→entN E j=entN x.E j
def tabP (tb:Nat) (ev:Value) (b pb:Nat) (sl:Value) (first:Int) (x:TS) (E:List Ent):List Comp:=
 [blockC tb (.cells #[.pointer (some ⟨b,0,none⟩),ev] 153 (0,0)),rowC ev E.length 119 5 (flat ent E),genC b pb sl first x.g]
def resE (x:TS) (h:Int):Int:=
 if x.g.S.length≤hSlot h then 10
 else if liveN x.g.S (hSlot h)=false∨(slotN x.g.S (hSlot h).toNat).1≠hGen h then 11
 else if(entN x.E (hSlot h).toNat).tag≠hTag h then 12 else 0
def resN (x:TS) (h:Int):Ent:=if resE x h=0 then entN x.E (hSlot h).toNat else ent0
def resV (x:TS) (h:Int):Value:=.tuple #[entV (resN x h),.int .i64 (resE x h)]
theorem tlive_ok {w:World} {tb b:Nat} {ev:Value} (h:w.heap[tb]? =some (.cells #[.pointer (some ⟨b,0,none⟩),ev] 153 (0,0))):Calls Tryz.prog 86 #[.pointer (some ⟨tb,0,none⟩)] w fun e w'=>e=.returned (.pointer (some ⟨b,0,none⟩))∧Mod [] w w':=by
 have hcb:=cells_of h;clear h;go_enter Tryz.func86,Tryz.ntmps86;go_wp2_with fail;go_ret;exact⟨rfl,Mod.refl _ _⟩
structure TView (w:World) (tb b pb q:Nat) (sl psv ev:Value) (first:Int) (x:TS) (E:List Ent):Prop where
 blk:w.heap[tb]? =some (.cells #[.pointer (some ⟨b,0,none⟩),ev] 153 (0,0))
 row:w.ownsRow 0 119 5 ev E.length (flat ent E)
 gen:GenAt w b first x.g.S x.g.F x.g.ret sl psv pb
 res:w.heap[q]? =some (.cells #[.int .u64 0,.int .i64 0,.int .i64 0,.int .i64 0,.int .i64 0] 119 (0,0))
theorem TView.mod {w w':World} {tb b pb q:Nat} {sl psv ev:Value} {first:Int} {x:TS} {E:List Ent} (h:TView w tb b pb q sl psv ev first x E) (hm:Mod [] w w'):TView w' tb b pb q sl psv ev first x E:=
 ⟨hm.at h.blk (by simp),row_mod h.row hm (by simp),h.gen.mod hm (by simp),hm.at h.res (by simp)⟩
theorem liveN_nat (S:List Slot) (k:Nat):liveN S (k:Int)=(slotN S k).2:=by simp[liveN]
section
variable {w:World} {n:Nat} {first:Int} {x:TS} {E:List Ent} {ev:Value} (hI:TInv n first x) (hA:Agree x E) (h:Int) (h0:0≤h) (h1:h≤18446744073709551615) (hn:n≤4096)
include hI hA h0 h1 hn
theorem resolve_ok {F:List Nat} {W:World} {tb b pb:Nat} {sl:Value} (hS:Scene F W (tabP tb ev b pb sl first x E) w):
  Calls Tryz.prog 53 #[.pointer (some ⟨tb,0,none⟩),.int .u64 h] w fun e w'=>e=.returned (resV x h)∧Mod [] w w':=by
 obtain⟨psv,hG⟩:=sc_gen 2 hS rfl;have hlen:=hI.g.len;have hl2:=hI.len;have hl3:=hA.1;have hA2:=hA.2;have hm1:=(Mod.refl [] w).alloc (.cells #[.int .u64 0,.int .i64 0,.int .i64 0,.int .i64 0,.int .i64 0] 119 (0,0));have hV:TView (w.alloc (.cells #[.int .u64 0,.int .i64 0,.int .i64 0,.int .i64 0,.int .i64 0] 119 (0,0))) tb b pb w.heap.size sl psv ev first x E:=
  ⟨at_alloc_old (hS.block 0 rfl),row_mod (hS.row 1 rfl) hm1 (by simp),hG.mod hm1 (by simp),at_alloc _ _⟩
 have hs0:0≤hSlot h∧hSlot h≤16777215:=by unfold hSlot;omega
 have hH1:=Lib.hid hm1;have hVH:=Lib.hid hV;have hSl:=Lib.hid fun w=>slot_ok h h0 h1 w
 have hGe:=Lib.hid fun w=>gen_ok h h0 h1 w
 have hTa:=Lib.hid fun w=>tag_ok h h0 h1 w
 have hE0:resE x h=resE x h:=rfl;unfold resV resN;unfold resE at hE0⊢;generalize hSlot h=s at*;generalize hGen h=g at*;generalize hTag h=t at*;obtain⟨j,rfl⟩:=Int.eq_ofNat_of_zero_le hs0.1;simp only[Int.toNat_natCast,liveN_nat,hlen];have hAj:=hA2 j;clear hA2;obtain⟨eh,eo,et,ef,el,hen⟩:∃eh eo et ef el,entN x.E j=⟨eh,eo,et,ef,el⟩:=⟨_,_,_,_,_,rfl⟩;rw[hen]at hAj;simp only[hen];have hAjH:=Lib.hid hAj;clear hAj hen;clear hE0 hG hS hV hI hA hm1;go_enter Tryz.func53,Tryz.ntmps53;go_wp2_with fail;refine(hSl.out _).mono ?_;rintro e w2 ⟨rfl,hm2⟩;have hV2:=Lib.hid (hVH.out.mod hm2);have hm2:=hH1.out.nil_then hm2;clear hVH hH1;go_wp2_with fail;refine(tlive_ok hV2.out.blk).mono ?_;rintro e w3 ⟨rfl,hm3⟩;have hV3:=Lib.hid (hV2.out.mod hm3);have hm3:=hm2.nil_then hm3;clear hm2 hV2;go_wp2_with fail;refine(size_ok hV3.out.gen).mono ?_;rw[hlen];rintro e w4 ⟨rfl,hm4⟩;have hV4:=Lib.hid (hV3.out.mod hm4);have hm4:=hm3.nil_then hm4;clear hm3 hV3;have hcq:=cells_of hV4.out.res;have hfq:=frozen_of hV4.out.res;have hcb:=cells_of hV4.out.blk;by_cases c1:(n:Int)≤j
 ·go_wp2_with fail;have hq5:=(at_setCell (o:=4) (v:=.int .i64 0) (at_setCell (o:=3) (v:=.int .i64 0) (at_setCell (o:=2) (v:=.int .i64 0) (at_setCell (o:=1) (v:=.int .i64 0) (at_setCell (o:=0) (v:=.int .u64 0) (hV4.out.res))))));have hm5:=((((((hm4).setCell (p:=⟨w.heap.size,0,none⟩) (.inr (Nat.le_refl _)) (.int .u64 0)).setCell (p:=⟨w.heap.size,1,none⟩) (.inr (Nat.le_refl _)) (.int .i64 0)).setCell (p:=⟨w.heap.size,2,none⟩) (.inr (Nat.le_refl _)) (.int .i64 0)).setCell (p:=⟨w.heap.size,3,none⟩) (.inr (Nat.le_refl _)) (.int .i64 0)).setCell (p:=⟨w.heap.size,4,none⟩) (.inr (Nat.le_refl _)) (.int .i64 0));refine bodyPost_ret (ret_cell_tmp Tryz.results53 rfl rfl hq5 Tryz.underlying119 rfl (by kernel_rfl)) rfl ?_;exact⟨rfl,hm5⟩
 ·have hjn:j<E.length:=by omega
  obtain⟨gr,cap,rfl,_,_⟩:=row_pos hV4.out.row (by omega);go_wp2_with fail;have hlv:=live_post hV4.out.gen j;rw[liveN_nat,Int.toNat_natCast]at hlv;have hAj:=hAjH.out;rw[entN_at hjn]at hAj;clear hAjH;generalize hsl:slotN x.g.S j=sl0 at*;rcases sl0 with⟨ge,le⟩
  simp only at hlv hAj;refine hlv.mono ?_;rintro e w5 ⟨rfl,hm5⟩;have hV5:=Lib.hid (hV4.out.mod hm5);have hm5:=hm4.nil_then hm5;clear hlv hm4 hV4 hcq hfq hcb
  cases le with
  |false=>
   have hcq:=cells_of hV5.out.res;have hfq:=frozen_of hV5.out.res;go_wp2_with fail;all_goals
    have hq5:=(at_setCell (o:=4) (v:=.int .i64 0) (at_setCell (o:=3) (v:=.int .i64 0) (at_setCell (o:=2) (v:=.int .i64 0) (at_setCell (o:=1) (v:=.int .i64 0) (at_setCell (o:=0) (v:=.int .u64 0) (hV5.out.res))))));have hm5:=((((((hm5).setCell (p:=⟨w.heap.size,0,none⟩) (.inr (Nat.le_refl _)) (.int .u64 0)).setCell (p:=⟨w.heap.size,1,none⟩) (.inr (Nat.le_refl _)) (.int .i64 0)).setCell (p:=⟨w.heap.size,2,none⟩) (.inr (Nat.le_refl _)) (.int .i64 0)).setCell (p:=⟨w.heap.size,3,none⟩) (.inr (Nat.le_refl _)) (.int .i64 0)).setCell (p:=⟨w.heap.size,4,none⟩) (.inr (Nat.le_refl _)) (.int .i64 0));refine bodyPost_ret (ret_cell_tmp Tryz.results53 rfl rfl hq5 Tryz.underlying119 rfl (by kernel_rfl)) rfl ?_;exact⟨rfl,hm5⟩
  |true=>
   have hcq:=cells_of hV5.out.res;have hfq:=frozen_of hV5.out.res;go_wp2_with fail;refine(hGe.out _).mono ?_;rintro e w6 ⟨rfl,hm6⟩;have hV6:=Lib.hid (hV5.out.mod hm6);have hm6:=hm5.nil_then hm6;clear hm5 hV5 hcq hfq;have hcq:=cells_of hV6.out.res;have hfq:=frozen_of hV6.out.res;by_cases c2:ge=g
   ·subst c2;have hAj:=hAj (by simp);have hrow:=hV6.out.row;have r0:=row_cell ent_length hrow hjn rfl (k:=0) (by omega);have r1:=row_cell ent_length hrow hjn rfl (k:=1) (by omega);have r2:=row_cell ent_length hrow hjn rfl (k:=2) (by omega);have r3:=row_cell ent_length hrow hjn rfl (k:=3) (by omega);have r4:=row_cell ent_length hrow hjn rfl (k:=4) (by omega);rw[hAj]at r0 r1 r2 r3 r4;simp only[ent,List.getElem?_cons_zero,List.getElem?_cons_succ,Nat.add_zero]at r0 r1 r2 r3 r4;have hgr:=(row_lt hrow gr rfl).2;clear hrow;go_wp2_with fail;have k1:=GW.cells (S:=[]) hV6.out.blk (by simp);have k2:=GW.cell1 (S:=[]) r2 hgr (by simp);clear r0 r1 r2 r3 r4 hcq hfq;refine wp_region_pure (by kernel_rfl) (by kernel_rfl) ?_;refine stage_quiet 9 (by kernel_rfl) ?_;simp only[tA,tB,tC,tD];(repeat go_big_quiet_step (fail));refine wpQuiet_nil ?_;refine stage_pure 102 _ (.int .i64 t) rfl Tryz.call102 rfl rfl (fun w' _=>hTa.out w') ?_;simp only[Act.put,sA,sB,sC];refine stage_quiet 1 (by kernel_rfl) ?_;simp only[tA,tB,tC,tD];(repeat go_big_quiet_step (fail));refine wpQuiet_nil ?_;refine stage_nil fun w7 hm7=> ?_
    clear k1 k2;have hV7:=Lib.hid (hV6.out.mod hm7);have hm7:=hm6.nil_then hm7;clear hV6 hm6;have hcq:=cells_of hV7.out.res;have hfq:=frozen_of hV7.out.res;have hcb:=cells_of hV7.out.blk;by_cases c3:et=t
    ·subst c3;have hrow:=hV7.out.row;have r0:=row_cell ent_length hrow hjn rfl (k:=0) (by omega);have r1:=row_cell ent_length hrow hjn rfl (k:=1) (by omega);have r2:=row_cell ent_length hrow hjn rfl (k:=2) (by omega);have r3:=row_cell ent_length hrow hjn rfl (k:=3) (by omega);have r4:=row_cell ent_length hrow hjn rfl (k:=4) (by omega);rw[hAj]at r0 r1 r2 r3 r4;simp only[ent,List.getElem?_cons_zero,List.getElem?_cons_succ,Nat.add_zero]at r0 r1 r2 r3 r4;clear hrow;go_wp2_with fail;all_goals
      have hq5:=(at_setCell (o:=4) (v:=.int .i64 el) (at_setCell (o:=3) (v:=.int .i64 ef) (at_setCell (o:=2) (v:=.int .i64 et) (at_setCell (o:=1) (v:=.int .i64 eo) (at_setCell (o:=0) (v:=.int .u64 eh) (hV7.out.res))))));have hm5:=((((((hm7).setCell (p:=⟨w.heap.size,0,none⟩) (.inr (Nat.le_refl _)) (.int .u64 eh)).setCell (p:=⟨w.heap.size,1,none⟩) (.inr (Nat.le_refl _)) (.int .i64 eo)).setCell (p:=⟨w.heap.size,2,none⟩) (.inr (Nat.le_refl _)) (.int .i64 et)).setCell (p:=⟨w.heap.size,3,none⟩) (.inr (Nat.le_refl _)) (.int .i64 ef)).setCell (p:=⟨w.heap.size,4,none⟩) (.inr (Nat.le_refl _)) (.int .i64 el));refine bodyPost_ret (ret_cell_tmp Tryz.results53 rfl rfl hq5 Tryz.underlying119 rfl (by kernel_rfl)) rfl ?_;exact⟨rfl,hm5⟩
    ·go_wp2_with fail
     all_goals
      have hq5:=(at_setCell (o:=4) (v:=.int .i64 0) (at_setCell (o:=3) (v:=.int .i64 0) (at_setCell (o:=2) (v:=.int .i64 0) (at_setCell (o:=1) (v:=.int .i64 0) (at_setCell (o:=0) (v:=.int .u64 0) (hV7.out.res))))));have hm5:=((((((hm7).setCell (p:=⟨w.heap.size,0,none⟩) (.inr (Nat.le_refl _)) (.int .u64 0)).setCell (p:=⟨w.heap.size,1,none⟩) (.inr (Nat.le_refl _)) (.int .i64 0)).setCell (p:=⟨w.heap.size,2,none⟩) (.inr (Nat.le_refl _)) (.int .i64 0)).setCell (p:=⟨w.heap.size,3,none⟩) (.inr (Nat.le_refl _)) (.int .i64 0)).setCell (p:=⟨w.heap.size,4,none⟩) (.inr (Nat.le_refl _)) (.int .i64 0));refine bodyPost_ret (ret_cell_tmp Tryz.results53 rfl rfl hq5 Tryz.underlying119 rfl (by kernel_rfl)) rfl ?_;exact⟨rfl,hm5⟩
   ·go_wp2_with fail
    all_goals
     have hq5:=(at_setCell (o:=4) (v:=.int .i64 0) (at_setCell (o:=3) (v:=.int .i64 0) (at_setCell (o:=2) (v:=.int .i64 0) (at_setCell (o:=1) (v:=.int .i64 0) (at_setCell (o:=0) (v:=.int .u64 0) (hV6.out.res))))));have hm5:=((((((hm6).setCell (p:=⟨w.heap.size,0,none⟩) (.inr (Nat.le_refl _)) (.int .u64 0)).setCell (p:=⟨w.heap.size,1,none⟩) (.inr (Nat.le_refl _)) (.int .i64 0)).setCell (p:=⟨w.heap.size,2,none⟩) (.inr (Nat.le_refl _)) (.int .i64 0)).setCell (p:=⟨w.heap.size,3,none⟩) (.inr (Nat.le_refl _)) (.int .i64 0)).setCell (p:=⟨w.heap.size,4,none⟩) (.inr (Nat.le_refl _)) (.int .i64 0));refine bodyPost_ret (ret_cell_tmp Tryz.results53 rfl rfl hq5 Tryz.underlying119 rfl (by kernel_rfl)) rfl ?_;exact⟨rfl,hm5⟩
end
end Go.Proofs.YteidpgdfocjdbaaGreat.Tb
namespace Go.Proofs.YteidpgdfocjdbaaGreat.Tb
open Go Go.RowKit Go.Stg
def badOT (owner tag:Int):Prop:=owner<1∨64<owner∨tag<1∨255<tag
instance (owner tag:Int):Decidable (badOT owner tag):=by unfold badOT;infer_instance
def issEnt (first:Int) (x:TS) (owner tag off len d:Int):Ent:=⟨packI (pickS x.g.F d) (nextG first (slotN x.g.S (pickS x.g.F d)).1) tag,owner,tag,off,len⟩
def issOk (x:TS) (owner tag:Int):Prop:=¬badOT owner tag∧0<x.g.F.length
instance (x:TS) (owner tag:Int):Decidable (issOk x owner tag):=by unfold issOk;infer_instance
def issT (first:Int) (x:TS) (owner tag off len d:Int):TS:=
 if issOk x owner tag then⟨issG first x.g d,x.E.set (pickS x.g.F d) (issEnt first x owner tag off len d)⟩else x
def issH (first:Int) (x:TS) (owner tag d:Int):Int:=if issOk x owner tag then(issEnt first x owner tag 0 0 d).h else 0
def issE (x:TS) (owner tag:Int):Int:=if badOT owner tag then 1 else if 0<x.g.F.length then 0 else 17
def issW (first:Int) (x:TS) (owner tag d:Int):Value:=.tuple #[.int .u64 (issH first x owner tag d),.int .i64 (issE x owner tag)]
theorem isP_ok (p:Int) (w:World):Calls Tryz.prog 85 #[.int .i64 p] w fun e w'=>e=.returned (.bool (decide (1≤p∧p≤64)))∧Mod [] w w':=by
 go_enter Tryz.func85,Tryz.ntmps85;by_cases h1:1≤p
 ·by_cases h2:p≤64
  ·go_wp2_with fail;go_ret;exact⟨by simp[h1,h2],Mod.refl _ _⟩
  ·go_wp2_with fail;go_ret;exact⟨by simp[h2],Mod.refl _ _⟩
 ·go_wp2_with fail;go_ret;exact⟨by simp;omega,Mod.refl _ _⟩
theorem entN_set {E:List Ent} {j:Nat} (h:j<E.length) (e:Ent) (m:Nat):entN (E.set j e) m=if m=j then e else entN E m:=by
 unfold entN;simp only[List.getD_eq_getElem?_getD];by_cases hm:m=j
 ·subst hm;simp[h]
 ·rw[if_neg hm,List.getElem?_set_ne (Ne.symm hm)]
section
variable {n:Nat} {first:Int} {x:TS} (h:TInv n first x) (hf1:1≤first) (hf2:first≤4294967295) (hn:n≤4096)
include h hf1 hf2
theorem nextG_in (hp:0<x.g.F.length) (d:Int):1≤nextG first (slotN x.g.S (pickS x.g.F d)).1∧nextG first (slotN x.g.S (pickS x.g.F d)).1≤4294967295:=by
 obtain⟨_,_,_,_,_,_,hg0,hg1,hsl⟩:=h.g.pick hf1 hf2 hp d;rw[hsl];unfold nextG;split<;>omega
theorem TInv.issue (owner tag off len d:Int):TInv n first (issT first x owner tag off len d):=by
 unfold issT;by_cases hk:issOk x owner tag
 ·rw[if_pos hk];obtain⟨hb,hp⟩:=hk;obtain⟨hi,hj,hp',hF,hjn,hd,hg0,hg1,hsl⟩:=h.g.pick hf1 hf2 hp d;have hjE:pickS x.g.F d<x.E.length:=by rw[h.len];exact hjn
  refine⟨h.g.issue hf1 hf2 d,by rw[List.length_set];exact h.len,fun m hm hl=> ?_⟩;simp only[issG_some hp]at hl⊢;rw[slotN_set hj]at hl⊢;rw[entN_set hjE];by_cases e:m=pickS x.g.F d
  ·rw[if_pos e,if_pos e];unfold badOT at hb;refine⟨by unfold issEnt;simp only;omega,?_⟩;rw[e];rfl
  ·rw[if_neg e]at hl;rw[if_neg e,if_neg e];exact h.ok m hm hl
 ·rw[if_neg hk];exact h
theorem Agree.issue {E:List Ent} (hA:Agree x E) (owner tag off len d:Int) (hk:issOk x owner tag):Agree (issT first x owner tag off len d) (E.set (pickS x.g.F d) (issEnt first x owner tag off len d)):=by
 unfold issT;rw[if_pos hk];obtain⟨hi,hj,hp',hF,hjn,hd,hg0,hg1,hsl⟩:=h.g.pick hf1 hf2 hk.2 d;have hjE:pickS x.g.F d<x.E.length:=by rw[h.len];exact hjn
 refine⟨by simp[hA.1],fun m hl=> ?_⟩;simp only[issG_some hk.2]at hl;rw[slotN_set hj]at hl;rw[entN_set hjE,entN_set (by rw[hA.1];exact hjE)];by_cases e:m=pickS x.g.F d
 ·rw[if_pos e,if_pos e]
 ·rw[if_neg e]at hl;rw[if_neg e,if_neg e];exact hA.2 m hl
end
def tabC (tb:Nat) (ev:Value) (b pb:Nat) (sl:Value) (first:Int) (x:TS):Comp:=
 ⟨fun w f=>∃E,Agree x E∧Hold (tabP tb ev b pb sl first x E) w f,fun⟨E,hA,h⟩ hm hT=>⟨E,hA,h.keep hm hT⟩,fun⟨_,_,h⟩=>h.lt⟩
section
variable {w:World} {n:Nat} {first:Int} {x:TS} (hI:TInv n first x) (hn:n≤4096) (hf1:1≤first) (hf2:first≤4294967295) (owner tag off len d:Int) (hd:0≤d) (hd2:d≤18446744073709551615) {f:List Nat} {tb b:Nat} {ev:Value}
include hI hn hf1 hf2 hd hd2
theorem tissue_ok {pb:Nat} {sl:Value} (hc:(tabC tb ev b pb sl first x).on w f):
  Calls Tryz.prog 44 #[.pointer (some ⟨tb,0,none⟩),.int .i64 owner,.int .i64 tag,.agg #[.int .i64 off,.int .i64 len],.int .u64 d] w
   (Takes (tabC tb ev b pb sl first (issT first x owner tag off len d)) (issW first x owner tag d) w f):=by
 obtain⟨E,hA,hH⟩:=hc;have hS:=(Scene.start hH).alloc (.cells #[.int .i64 off,.int .i64 len] 56 (0,0));have hSH:=Lib.hid hS;have hAk:=Lib.hid fun hk=>hA.issue hI hf1 hf2 owner tag off len d hk
 have hfin0:∀w',Scene f w (blockC w.heap.size (.cells #[.int .i64 off,.int .i64 len] 56 (0,0))::tabP tb ev b pb sl first x E) w'→∀v,Takes (tabC tb ev b pb sl first x) v w f (.returned v) w':=fun w' h v=>by
  obtain⟨f',k1,k2,k3⟩:=(h.erase 0).done;exact⟨f',rfl,⟨E,hA,k1⟩,k2,k3⟩
 have hfinH:=Lib.hid hfin0;have hIs:=Lib.hid fun w' (h:Scene f w (blockC w.heap.size (.cells #[.int .i64 off,.int .i64 len] 56 (0,0))::tabP tb ev b pb sl first x E) w')=>sc_issue hI.g 3 h rfl hf1 hf2 d hd hd2
 clear hA hfin0 hH hS;by_cases hb:badOT owner tag
 ·have hk:¬issOk x owner tag:=fun h=>h.1 hb
  have e1:issT first x owner tag off len d=x:=if_neg hk
  have e2:issW first x owner tag d=.tuple #[.int .u64 0,.int .i64 1]:=by unfold issW issH issE;rw[if_neg hk,if_pos hb]
  rw[e1,e2];clear hk e1 e2 hAk hIs hI;go_enter Tryz.func44,Tryz.ntmps44;go_wp2_with fail;refine(isP_ok owner _).mono ?_;rintro e w1 ⟨rfl,hm1⟩;have hfin:=Lib.hid (hfinH.out _ (hSH.out.then hm1));clear hfinH hSH;unfold badOT at hb;by_cases hp:1≤owner∧owner≤64
  ·have ed:decide (1≤owner∧owner≤64)=true:=by simp[hp]
   rw[ed];by_cases ht:tag<1
   ·go_wp2_with fail;go_ret2;exact hfin.out _
   ·have ht2:255<tag:=by omega
    go_wp2_with fail;go_ret2;exact hfin.out _
  ·have ed:decide (1≤owner∧owner≤64)=false:=by simp only[decide_eq_false_iff_not];exact hp
   rw[ed];go_wp2_with fail;go_ret2;exact hfin.out _
 ·have hb':(1≤owner∧owner≤64)∧1≤tag∧tag≤255:=by unfold badOT at hb;omega
  have ed:decide (1≤owner∧owner≤64)=true:=by simp[hb'.1]
  obtain⟨_,ht1,ht2⟩:=hb';by_cases hp:0<x.g.F.length
  ·have hk:issOk x owner tag:=⟨hb,hp⟩;have hng:=nextG_in hI hf1 hf2 hp d;obtain⟨_,hj,_,_,hjn,_⟩:=hI.g.pick hf1 hf2 hp d;have e1:issT first x owner tag off len d=⟨issG first x.g d,x.E.set (pickS x.g.F d) (issEnt first x owner tag off len d)⟩:=if_pos hk
   have e2:issW first x owner tag d=.tuple #[.int .u64 (packI (pickS x.g.F d) (nextG first (slotN x.g.S (pickS x.g.F d)).1) tag),.int .i64 0]:=by unfold issW issH issE;rw[if_pos hk,if_neg hb,if_pos hp];rfl
   have hA2:=hAk.out hk;rw[e1]at hA2;rw[e1,e2];rw[issV_some hp]at hIs;unfold issEnt at*;have hA2:=Lib.hid hA2;have hjE:pickS x.g.F d<E.length:=by have:=hA2.out.1;simp at this;have:=hI.len;omega
   obtain⟨gr,cap,rfl,_,_⟩:=row_pos (hSH.out.row 2 rfl) (by omega);clear hk e1 e2 hAk hI hfinH hb;generalize hjj:pickS x.g.F d=j at*;generalize hgg:nextG first (slotN x.g.S j).1=gg at*
   have hP:=Lib.hid fun w'=>pack_ok j gg tag (by omega) hng (by omega) w'
   go_enter Tryz.func44,Tryz.ntmps44;go_wp2_with fail;refine(isP_ok owner _).mono ?_;rintro e w1 ⟨rfl,hm1⟩;have hS1:=Lib.hid (hSH.out.then hm1);clear hSH;rw[ed];go_wp2_with fail;refine(tlive_ok (hS1.out.block 1 rfl)).mono ?_;rintro e w2 ⟨rfl,hm2⟩;have hS2:=Lib.hid (hS1.out.then hm2);clear hS1;go_wp2_with fail;refine(hIs.out _ hS2.out).mono ?_;rintro e w3 ⟨rfl,hS3⟩;have hS3:=Lib.hid hS3;clear hS2 hIs;go_wp2_with fail;refine(hP.out _).mono ?_;rintro e w4 ⟨rfl,hm4⟩;have hS4:=Lib.hid (hS3.out.then hm4);clear hS3 hP;go_wp2_with fail;have k1:=GW.cells (S:=[]) ((hS4).out.block 1 rfl) (by simp);have k2:=GW.cells (S:=[]) ((hS4).out.block 0 rfl) (by simp);refine wp_region_pure (by kernel_rfl) (by kernel_rfl) ?_;refine stage_quiet 11 (by kernel_rfl) ?_;simp only[tA,tB,tC,tD];(repeat go_big_quiet_step (fail));refine wpQuiet_nil ?_;have hst:=fun w' (h:Mod [] (w4) w')=>run_storeAt_mid (P:=Tryz.prog) w' gr (j*5) 119 #[.int .u64 (packI j gg tag),.int .i64 owner,.int .i64 tag,.int .i64 off,.int .i64 len] (row_there ent_length (((hS4).out.then h).row 2 rfl) hjE rfl) (by kernel_rfl) (by simp[Value.oneCell'])
   refine stage_store (p:=⟨gr,j*5,none⟩) (u:=.agg #[.int .u64 (packI j gg tag),.int .i64 owner,.int .i64 tag,.int .i64 off,.int .i64 len]) (fun w'=>w'.setCells gr (j*5) (ent ⟨packI j gg tag,owner,tag,off,len⟩)) rfl rfl (by kernel_rfl) rfl rfl rfl (fun w' hw=>hst w' hw) (fun w' hw=> ?_);have h5:=((hS4).out.then hw).rowPut ent_length (by omega) 2 rfl hjE ⟨packI j gg tag,owner,tag,off,len⟩;clear k1 k2 hst;generalize w'.setCells gr (j*5) (ent ⟨packI j gg tag,owner,tag,off,len⟩)=w5 at*;have h5:=Lib.hid h5;go_wp2_with fail;go_ret2;obtain⟨f',q1,q2,q3⟩:=(h5.out.erase 0).done;refine⟨f',rfl,⟨_,hA2.out,?_⟩,q2,q3⟩;unfold tabP;rw[List.length_set];exact q1
  ·have hk:¬issOk x owner tag:=fun h=>hp h.2
   have e1:issT first x owner tag off len d=x:=if_neg hk
   have e2:issW first x owner tag d=.tuple #[.int .u64 0,.int .i64 17]:=by unfold issW issH issE;rw[if_neg hk,if_neg hb,if_neg hp]
   have hz:x.g.F=[]:=List.length_eq_zero_iff.1 (by omega);rw[e1,e2];rw[issV_none hz,issG_none hz]at hIs;clear hk e1 e2 hAk hI hb;go_enter Tryz.func44,Tryz.ntmps44;go_wp2_with fail;refine(isP_ok owner _).mono ?_;rintro e w1 ⟨rfl,hm1⟩;have hS1:=Lib.hid (hSH.out.then hm1);clear hSH;rw[ed];go_wp2_with fail;refine(tlive_ok (hS1.out.block 1 rfl)).mono ?_;rintro e w2 ⟨rfl,hm2⟩;have hS2:=Lib.hid (hS1.out.then hm2);clear hS1;go_wp2_with fail;refine(hIs.out _ hS2.out).mono ?_;rintro e w3 ⟨rfl,hS3⟩;have hfin:=Lib.hid (hfinH.out _ hS3);clear hS2 hIs hfinH hS3;go_wp2_with fail;go_ret2;exact hfin.out _
end
end Go.Proofs.YteidpgdfocjdbaaGreat.Tb
namespace Go.Proofs.YteidpgdfocjdbaaGreat.Tb
open Go Go.RowKit Go.Stg
theorem resE_zero {x:TS} {h:Int} (h0:resE x h=0):∃j:Nat,hSlot h=j∧j<x.g.S.length∧(slotN x.g.S j).2=true∧(slotN x.g.S j).1=hGen h∧(entN x.E j).tag=hTag h:=by
 have hs:0≤hSlot h:=by unfold hSlot;omega
 obtain⟨j,hj⟩:=Int.eq_ofNat_of_zero_le hs;unfold resE at h0;rw[hj]at h0;simp only[Int.toNat_natCast,liveN_nat]at h0;refine⟨j,hj,?_⟩;by_cases c1:(x.g.S.length:Int)≤j
 ·rw[if_pos c1]at h0;cases h0
 ·rw[if_neg c1]at h0;by_cases c2:(slotN x.g.S j).2=false∨(slotN x.g.S j).1≠hGen h
  ·rw[if_pos c2]at h0;cases h0
  ·rw[if_neg c2]at h0;by_cases c3:(entN x.E j).tag≠hTag h
   ·rw[if_pos c3]at h0;cases h0
   ·refine⟨by omega,?_,?_,?_⟩
    ·cases hl:(slotN x.g.S j).2 with
     |true=>rfl
     |false=>exact absurd (.inl hl) c2
    ·exact Classical.not_not.1 fun e=>c2 (.inr e)
    ·exact Classical.not_not.1 c3
def dropT (x:TS) (h:Int):TS:=if resE x h=0 then⟨endG x.g (hSlot h),x.E⟩else x
theorem endG_live {x:GS} {k m:Nat} (hk:(slotN x.S k).2=true) (hl:(slotN (endG x (k:Int)).S m).2=true):m≠k∧slotN (endG x (k:Int)).S m=slotN x.S m:=by
 have hkl:k<x.S.length:=by
  rcases Nat.lt_or_ge k x.S.length with h|h
  ·exact h
  ·rw[slotN_out h]at hk;cases hk
 unfold endG at hl⊢;rw[liveN_nat,hk,if_pos rfl,Int.toNat_natCast]at hl⊢;have key:∀g:Int,(slotN (x.S.set k (g,false)) m).2=true→m≠k∧slotN (x.S.set k (g,false)) m=slotN x.S m:=fun g h=>by
  rw[slotN_set hkl]at h⊢;by_cases e:m=k
  ·rw[if_pos e]at h;cases h
  ·exact⟨e,if_neg e⟩
 by_cases c:(slotN x.S k).1=4294967295
 ·rw[if_pos c]at hl⊢;exact key _ hl
 ·rw[if_neg c]at hl⊢;exact key _ hl
section
variable {n:Nat} {first:Int} {x:TS}
theorem TInv.drop (hI:TInv n first x) (h:Int):TInv n first (dropT x h):=by
 unfold dropT;by_cases h0:resE x h=0
 ·rw[if_pos h0];obtain⟨j,hj,hjl,hlv,_,_⟩:=resE_zero h0;rw[hj];refine⟨hI.g.endd j,hI.len,fun m hm hl=> ?_⟩;simp only at hl⊢;obtain⟨hne,e⟩:=endG_live hlv hl;rw[e]at hl⊢;exact hI.ok m hm hl
 ·rw[if_neg h0];exact hI
theorem Agree.drop {E E':List Ent} (hA:Agree x E) {h:Int} (h0:resE x h=0) (hl':E'.length=E.length) (hs:∀m:Nat,(m:Int)≠hSlot h→entN E' m=entN E m):Agree (dropT x h) E':=by
 unfold dropT;rw[if_pos h0];obtain⟨j,hj,hjl,hlv,_,_⟩:=resE_zero h0;rw[hj]at hs⊢;refine⟨by rw[hl'];exact hA.1,fun m hl=> ?_⟩;simp only at hl⊢;obtain⟨hne,e⟩:=endG_live hlv hl;rw[e]at hl;rw[hs m (by omega)];exact hA.2 m hl
end
end Go.Proofs.YteidpgdfocjdbaaGreat.Tb
