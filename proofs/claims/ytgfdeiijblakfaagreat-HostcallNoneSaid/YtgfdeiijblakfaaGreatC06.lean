/- Joined contracts. No conditions. -/
import Derived.Test.YtgfdeiijblakfaaGreatCS
import Derived.Test.YtgfdeiijblakfaaGreatC02
import Derived.Test.YtgfdeiijblakfaaGreatC05
set_option maxHeartbeats 4000000
set_option maxRecDepth 100000
namespace Go.Proofs.YtgfdeiijblakfaaGreat.Tb
open Go Go.RowKit Go.Stg
attribute [local go_sem] Oper.semAt_some
def IntsAt (w:World) (v:Value) (xs:List Int):Prop:=
 (v=.slice none 0 0∧xs=[])∨∃sb so cap,v=.slice (some ⟨sb,so,none⟩) xs.length cap∧sb<w.heap.size∧xs.length≤1000000∧
  ∀i (h:i<xs.length),w.cell? ⟨sb,so+i,none⟩=some (.int .i64 xs[i])
theorem IntsAt.len {w0:World} {v:Value} {xs:List Int} (h:IntsAt w0 v xs) (ty:TypeId) (w:World):(Builtin.len_ #[42] ty #[v]).run Tryz.prog w=.ok (.int .i64 xs.length) w:=by
 rcases h with⟨rfl,rfl⟩|⟨sb,so,cap,rfl,_⟩<;>simp[Builtin.len_,run_underlying Tryz.underlying42,goInt]
theorem IntsAt.mod {S:List Nat} {w w':World} {v:Value} {xs:List Int} (h:IntsAt w v xs) (hm:Mod S w w') (hS:∀x,v.ownBlock=some x→x∉S):IntsAt w' v xs:=by
 rcases h with h|⟨sb,so,cap,rfl,h2,h3,h4⟩
 ·exact .inl h
 ·exact .inr ⟨sb,so,cap,rfl,hm.lt h2,h3,fun i hi=>(cell_mod hm h2 (hS sb rfl)).trans (h4 i hi)⟩
theorem IntsAt.small {w:World} {v:Value} {xs:List Int} (h:IntsAt w v xs):xs.length≤1000000:=by
 rcases h with⟨_,rfl⟩|⟨_,_,_,_,_,h,_⟩
 ·simp
 ·exact h
theorem wpListIn_append_row {F:Fence} {n':Nat} {P:Program} (w:World) {ops:Array Oper} {rest:List Oper} {o:Oper} {a:Act} {Q:Exit→Act→World→Prop} (hgd:o.guard=none) (s x:Operand) (t:TypeId)
  (ho:o.op=Op.call {callee:=Callee.builtin Builtin.append,args:=#[s,x],argTypes:=#[t,t]})
  (base:Nat) (e:TypeId) (i:TypeInfo) (z:Value) (size bytes:Nat) (ht:P.underlying t=some (.slice e)) (hi:P.info? e=some i) (hz:i.zero=some z)
  (hsize:i.size=size) (hby:i.bytes=bytes) (hzs:z.cells.size=size) (hsz:0<size)
  (v:Value) (n:Nat) (xs:List Value) (hs:a.eval s=v) (hown:w.ownsRow base e size v n xs)
  (ad:Addr) (m c:Nat) (news:List Value) (hx:a.eval x=.slice (some ad) m c) (hl:news.length=m*size) (hnews:∀j u,news[j]? =some u→w.cell? (ad.add j)=some u) (h1:∀u∈news,u.oneCell'=true)
  (h63:n+m≤maxLen) (hbytes:(n+m)*bytes≤140737488355328) (hb:base≤w.heap.size)
  (h:∀v' w',w'.ownsRow base e size v' (n+m) (xs++news)→w.grownBy w' v.ownBlock→(∀x,v'.ownBlock=some x→v.ownBlock=some x∨w.heap.size≤x)→wpListIn F n' P ops Q rest (a.put o.dst v') w'):wpListIn F n' P ops Q (o::rest) a w:=by
 refine wpListIn_plain hgd fun K hK'=> ?_
 obtain⟨v',w',hrun,h2,h3,h4⟩:=run_append_row (P:=P) w t o.type e i z size bytes ht hi hz hsize hby hzs hsz v n xs (row_base hown (Nat.zero_le _)) ad m c news hl hnews h1 h63 hbytes;have h2':w'.ownsRow base e size v' (n+m) (xs++news):=row_all h2 fun g hg=>by
  rcases h4 g hg with h|h
  ·exact(hown.lt g h).1
  ·omega
 unfold Oper.wpIn;refine⟨?_,?_⟩
 ·simp[Oper.about,ho,resolve,Target.leads,Sem.run_pure]
 ·rw[Oper.semAt_plain F _ _ (by rw[ho];intro c hc';cases hc')];simp[execOp,ho,resolve,invoke,builtin,hs,hx,hrun,Result.andThen];exact hK' _ _ (h v' w' h2' h3 h4)
theorem putObj_other (W:World) {l k:Nat} (o':Obj) (h:k≠l):(W.putObj l o').heap[k]? =W.heap[k]? :=by
 show(W.heap.setIfInBounds l o')[k]? =_;rw[Array.getElem?_setIfInBounds_ne (Ne.symm h)]
def Apart1 (h:Nat) (W:World) (k:Nat):Prop:=∀v,W.cell? ⟨h,0,none⟩=some v→v.ownBlock≠some k
theorem apart1_put {h B:Nat} (hB:h<B):∀(W:World) (l:Nat) (o':Obj) k,B≤l→Apart1 h W k→Apart1 h (W.putObj l o') k:=by
 intro W l o' k hl ha v hv;refine ha v ?_;rw[←hv];exact(World.cell?_of_block (a:=⟨h,0,none⟩) (putObj_other W o' (by show h≠l;omega))).symm
theorem appendseq_ok (B b:Nat) (sv:Value) (xs:List Int) (w:World) (bN:w.heap[B]? =some (.cells #[.pointer (some ⟨b,0,none⟩)] 152 (0,0))) (hp:PoolAt 200 3 w b sv (xs.map (.int .i64))):Calls Tryz.prog 167 #[.slice none 0 0,.func (.func 168) #[] #[.pointer (some ⟨B,0,none⟩)]] w fun e w'=>∃v,e=.returned v∧Mod [] w w'∧IntsAt w' v xs:=by
 obtain⟨i0,hi,hz0,hz1,hz2⟩:=info_parts info_int;have hlen:=hp.len;simp only[List.length_map]at hlen;refine(callsIn_wide (n:=5)).1 ?_;refine callsIn_of_wp_marks Tryz.func167 rfl trivial ?_ rfl;simp only[Tryz.ntmps167,List.size_toArray,List.length_cons,List.length_nil,Nat.reduceAdd,Nat.reduceSub,Array.replicate_succ,Array.replicate_zero,List.push_toArray,List.append_toArray,List.nil_append,List.cons_append];gi_wp2_with fail;have hBlt:=lt_of bN;have bO0:=Boxed.new w 42 (.slice none 0 0);have bN:=at_alloc_old (o:=.cells #[.slice none 0 0] 42) bN;have hB0:RowKit.Below w.heap.size w (w.alloc (.cells #[.slice none 0 0] 42)):=(RowKit.Below.refl _ w).alloc (Nat.le_refl _) _;have hp0:=hp.mod (Mod.of_below hB0) (by simp);have hsz:(w.alloc (.cells #[.slice none 0 0] 42)).heap.size=w.heap.size+1:=by simp
 generalize w.alloc (.cells #[.slice none 0 0] 42)=W0 at*;have hst:=AllI_stops 4 (by omega) B W0.heap.size b (Apart1 w.heap.size) sv xs W0 bN (by omega) hp0 (fun W W2 k h1 h2 hk v hv=>by
  have e1:W2.cell? ⟨w.heap.size,0,none⟩=some (.slice none 0 0):=by
   rw[World.cell?_of_block (a:=⟨w.heap.size,0,none⟩) (h2.block _ (Nat.lt_of_lt_of_le (by show w.heap.size<W0.heap.size;omega) h1.size)),World.cell?_of_block (a:=⟨w.heap.size,0,none⟩) (h1.block _ (by show w.heap.size<W0.heap.size;omega))];exact bO0.cell
  rw[e1]at hv;cases hv;simp[Value.ownBlock])
 refine wpIn_rangeFunc_ownG rfl (by omega) (gf:=168) (lb:=#[.pointer (some ⟨B,0,none⟩)]) rfl trivial (enters_of Tryz.func168 (by kernel_rfl) rfl) hst keeps_t
  (keeps_b (apart1_put (by omega))) (RowKit.Below.refl _ _) (fun _=>rfl)
  (fun(pre:List Int) W=>(∃v,Boxed W w.heap.size 42 v∧W.ownsRow w.heap.size 3 1 v pre.length (pre.map (Value.int .i64))∧True)∧RowKit.Below w.heap.size w W) (fun _ _ _=>False)
  (OwnFrom.and (Own.from (holdsRow_own w.heap.size w.heap.size 42 3 1 (fun(pre:List Int)=>pre.length) (fun(pre:List Int)=>pre.map (Value.int .i64)) (fun _ _=>True)) _) (ownFrom_below (Nat.le_refl _) (by omega))) (fun _ _ _ _ _ hs _ _=>hs)
  ⟨⟨_,bO0,World.ownsRow_nil _ _ _ _,trivial⟩,hB0⟩ ?a1 ?assign ?body ?done ?stop
 case assign=>
  intro l x W K hK;gi_wp2;exact hK
 case body=>
  rintro l pre x W ⟨⟨v,hv,hrow, -⟩,hB⟩ hlt;have hc:=hv.cell;clear hst hp0 bO0 bN hB0 hp
  gi_wp2_with (gi_at_builtin;refine wpListIn_append_row _ rfl _ _ 42 rfl w.heap.size 3 i0 (.int .i64 0) 1 8 Tryz.underlying42 hi hz0 hz1 hz2 rfl (by decide) _ _ _ rfl (hrow.alloc _) ⟨W.heap.size,0,none⟩ 1 1 [.int .i64 x] rfl rfl (cell_one_new _ _ _) (by simp[Value.oneCell']) (by unfold maxLen;omega) (by omega) (by have:=hB.size;simp;omega) ?_;intro v' w1 hown' hgrow hfr;obtain⟨g',cap',rfl⟩:=ownsRow_succ hown';obtain⟨hv1,hv2,hr2,hk2,hb2⟩:=hv.appended (by decide) hrow hB.size (Nat.le_refl _) hown' hgrow;have hc1:=hv1.cell;have hf1:=hv1.frozen)
  refine⟨hk2.from _,⟨hk2.size,fun k cs T fr hk ha hck=>⟨?_,fun u hu=> ?_⟩⟩,⟨_,hv2,by simpa using hr2,trivial⟩,hB.trans hb2⟩
  ·have hlt:=lt_of hck;have hne:k≠w.heap.size:=by omega
   have h1:=(hgrow.block k (by simp;omega) (fun e=>ha v hc e.symm)).trans (at_alloc_old hck);exact at_setCell_other h1 hne
  ·rw[hv2.cell]at hu;cases hu;intro e;rcases hfr k e with h|h
   ·exact ha v hc h
   ·have:=lt_of hck;simp at h;omega
 case done=>
  rintro D ys W hD rfl ⟨⟨v,hv,hrow, -⟩,hB⟩ hK;have hc:=hv.cell
  gi_wp2_with fail
  refine⟨by simp,.inl ⟨_,_,rfl,run_takeDeferred hK,?_⟩⟩;have hK':=ownsRow_putObj hrow (.deferred none) hK rfl;have hB':=hB.trans (belowK_b (w:=w) (Nat.le_refl _) W D _ (.deferred none) (by omega) hK rfl rfl);generalize W.putObj D (.deferred none)=W2 at*;refine⟨_,results_tmp rfl _ _ _,v,rfl,Mod.of_below hB',?_⟩;rcases hK'.2 with⟨rfl,h2⟩|⟨g,cap,cur,rfl,h2,h3,h4,h5,h6,h7⟩
  ·exact .inl ⟨rfl,List.eq_nil_of_length_eq_zero h2⟩
  ·refine .inr ⟨g,0,cap,rfl,lt_of h3,hlen,fun i hi=> ?_⟩;have hcc:=hK'.cellAt i (by omega);rw[List.getElem?_map,List.getElem?_eq_getElem hi]at hcc;rw[Nat.zero_add];exact hcc
 case stop=>
  rintro D c pre W _ _ h _;exact h.elim
theorem collect_ok (B b:Nat) (sv:Value) (xs:List Int) (w:World) (bN:w.heap[B]? =some (.cells #[.pointer (some ⟨b,0,none⟩)] 152 (0,0))) (hp:PoolAt 200 3 w b sv (xs.map (.int .i64))):Calls Tryz.prog 160 #[.func (.func 168) #[] #[.pointer (some ⟨B,0,none⟩)]] w fun e w'=>∃v,e=.returned v∧Mod [] w w'∧IntsAt w' v xs:=by
 have hA:=Lib.hid (appendseq_ok B b sv xs w bN hp);clear hp bN;go_enter Tryz.func160,Tryz.ntmps160;go_wp2_with fail;refine hA.out.mono ?_;rintro e w1 ⟨v,rfl,hm,hi⟩;obtain⟨a,n,c,rfl⟩:∃a n c,v=.slice a n c:=by
  rcases hi with⟨rfl,_⟩|⟨_,_,_,rfl,_⟩
  ·exact⟨_,_,_,rfl⟩
  ·exact⟨_,_,_,rfl⟩
 go_wp2_with fail;go_ret;exact⟨_,rfl,hm,hi⟩
theorem pool_ok {w:World} {b pb:Nat} {first ret:Int} {S:List Slot} {F:List Int} {sl psv:Value} (h:GenAt w b first S F ret sl psv pb):Calls Tryz.prog 149 #[.pointer (some ⟨b,0,none⟩)] w fun e w'=>∃v,e=.returned v∧Mod [] w w'∧IntsAt w' v F:=by
 have hcb:=cells_of h.blk;have hp:=Lib.hid h.pool;clear h;go_enter Tryz.func149,Tryz.ntmps149;go_wp2_with fail;refine(AllI_made (some ⟨pb,0,none⟩) _).mono ?_;rintro e w1 ⟨rfl,rfl⟩;have bN:=at_alloc w (.cells #[.pointer (some ⟨pb,0,none⟩)] 152);have hp1:=hp.out.mod ((Mod.refl [] w).alloc (.cells #[.pointer (some ⟨pb,0,none⟩)] 152)) (by simp);have hm0:=(Mod.refl [] w).alloc (.cells #[.pointer (some ⟨pb,0,none⟩)] 152);have hC:=Lib.hid (collect_ok w.heap.size pb psv F _ bN hp1);clear hp1 hp;go_wp2_with fail;refine hC.out.mono ?_;rintro e w2 ⟨v,rfl,hm,hi⟩;obtain⟨a,n,c,rfl⟩:∃a n c,v=.slice a n c:=by
  rcases hi with⟨rfl,_⟩|⟨_,_,_,rfl,_⟩
  ·exact⟨_,_,_,rfl⟩
  ·exact⟨_,_,_,rfl⟩
 go_wp2_with fail;go_ret;exact⟨_,rfl,hm0.nil_then hm,hi⟩
end Go.Proofs.YtgfdeiijblakfaaGreat.Tb
namespace Go.Proofs.YtgfdeiijblakfaaGreat.Tb
open Go Go.RowKit Go.Stg
def Sl (W:World) (b pb:Nat) (sl:Value) (first:Int) (S:List Slot) (F:List Int) (ret:Int) (w:World):Prop:=
 ∃psv,Mod [] W w∧GenAt w b first S F ret sl psv pb∧∀x∈gfoot b pb sl psv,W.heap.size≤x
section
variable {W w:World} {b pb:Nat} {sl:Value} {first ret:Int} {S:List Slot} {F:List Int} (h:Sl W b pb sl first S F ret w)
include h
theorem Sl.mod:Mod [] W w:=let ⟨_,h,_⟩:=h;h
theorem Sl.then {w':World} (hm:Mod [] w w'):Sl W b pb sl first S F ret w':=by
 obtain⟨psv,h1,h2,h3⟩:=h;exact⟨psv,h1.nil_then hm,h2.mod hm (by simp),h3⟩
end
end Go.Proofs.YtgfdeiijblakfaaGreat.Tb
namespace Go.Proofs.YtgfdeiijblakfaaGreat.Tb
open Go Go.RowKit Go.Stg
theorem set_perm {α:Type} (D:List α) (z:α) (i:Nat) (hi:i<D.length):(D++[z]).Perm (D[i]::D.set i z):=by
 have h1:D=D.take i++D[i]::D.drop (i+1):=by rw[←List.drop_eq_getElem_cons hi,List.take_append_drop]
 have h2:D.set i z=D.take i++z::D.drop (i+1):=List.set_eq_take_append_cons_drop▸(by rw[if_pos hi]);rw[h2];refine List.Perm.trans (l₂:=D[i]::(D.take i++D.drop (i+1))++[z]) ?_ ?_
 ·refine List.Perm.append_right _ ?_;conv=>lhs;rw[h1]
  exact List.perm_middle
 ·refine List.Perm.cons _ ?_;refine List.Perm.trans ?_ List.perm_middle.symm;exact List.perm_append_comm
theorem takeAt_perm {α:Type} (l:List α) (i:Nat) (h:0<l.length) (hi:i<l.length):l.Perm (l[i]::takeAt l i h):=by
 have hne:l≠ []:=by intro e;simp[e]at h
 have hl:l=l.dropLast++[l[l.length-1]]:=by rw[←List.getLast_eq_getElem hne];exact(List.dropLast_concat_getLast hne).symm
 have hll:l.dropLast.length=l.length-1:=List.length_dropLast;unfold takeAt;generalize l.dropLast=D at*;generalize l[l.length-1]=z at*;subst hl;by_cases hlast:i=D.length
 ·subst hlast;simp
 ·have hd:i<D.length:=by simp at hi;omega
  rw[List.set_append_left _ _ hd,List.dropLast_concat,List.getElem_append_left hd];exact set_perm D z i hd
def DrawsAt (w:World) (v:Value) (ds:List Int):Prop:=
 (v=.slice none 0 0∧ds=[])∨∃sb so cap,v=.slice (some ⟨sb,so,none⟩) ds.length cap∧sb<w.heap.size∧ds.length≤maxLen∧
  ∀i (h:i<ds.length),w.cell? ⟨sb,so+i,none⟩=some (.int .u64 ds[i])∧0≤ds[i]∧ds[i]≤18446744073709551615
theorem DrawsAt.len {w0:World} {v:Value} {ds:List Int} (h:DrawsAt w0 v ds) (ty:TypeId) (w:World):(Builtin.len_ #[43] ty #[v]).run Tryz.prog w=.ok (.int .i64 ds.length) w:=by
 rcases h with⟨rfl,rfl⟩|⟨sb,so,cap,rfl,_⟩<;>simp[Builtin.len_,run_underlying Tryz.underlying43,goInt]
theorem DrawsAt.mod {w w':World} {v:Value} {ds:List Int} (h:DrawsAt w v ds) (hm:Mod [] w w'):DrawsAt w' v ds:=by
 rcases h with h|⟨sb,so,cap,h1,h2,h3,h4⟩
 ·exact .inl h
 ·refine .inr ⟨sb,so,cap,h1,hm.lt h2,h3,fun i hi=> ?_⟩;obtain⟨a,b⟩:=h4 i hi;exact⟨(cell_mod hm h2 (by simp)).trans a,b⟩
def nextG (first g:Int):Int:=if g=0 then first else g+1
def slotOf (S:List Slot) (x:Int):Slot:=S.getD x.toNat (0,false)
def remG (first:Int) (S:List Slot) (x:Int):Int:=4294967295-nextG first (slotOf S x).1+1
def sumG:List Int→Int
 | []=>0
 |x::l=>x+sumG l
theorem sumG_append (l:List Int) (x:Int):sumG (l++[x])=sumG l+x:=by
 induction l with
 |nil=>simp[sumG]
 |cons y l ih=>simp only[List.cons_append,sumG,ih];omega
theorem slotOf_nat (S:List Slot) (m:Nat) (h:m<S.length):slotOf S m=S[m]:=by simp[slotOf,List.getD_eq_getElem?_getD,List.getElem?_eq_getElem h]
structure RInv (n:Nat) (first:Int) (S:List Slot) (F:List Int) (ret t:Int):Prop where
 len:S.length=n
 nd:F.Nodup
 free:∀x∈F,∃m:Nat,x=m∧m<n
 dead:∀m (h:m<S.length),S[m].2=false
 gens:∀m (h:m<S.length),0≤S[m].1∧S[m].1≤4294967295
 low:∀x∈F,(slotOf S x).1<4294967295
 cnt:(F.length:Int)+ret=n
 tot:sumG (F.map (remG first S))=t
 ret0:0≤ret
theorem RInv.start (n:Nat) (first:Int):RInv n first (fresh n) (upTo n) 0 (n*(4294967295-first+1)):=by
 refine⟨fresh_length n,?_,fun x hx=> ?_,fun m h=>by simp[fresh],fun m h=>by simp[fresh],fun x hx=> ?_,by simp[upTo_length],?_,Int.le_refl 0⟩
 ·unfold upTo List.Nodup;rw[List.pairwise_map];exact List.Pairwise.imp (fun h e=>h (Int.ofNat.inj e)) List.nodup_range
 ·simp only[upTo,List.mem_map,List.mem_range]at hx;obtain⟨m,h,rfl⟩:=hx;exact⟨m,rfl,h⟩
 ·simp only[upTo,List.mem_map,List.mem_range]at hx;obtain⟨m,h,rfl⟩:=hx;show(slotOf (fresh n) (m:Int)).1<_;rw[slotOf_nat _ m (by rw[fresh_length];exact h)];simp[fresh]
 ·have hr:∀k,k≤n→sumG ((upTo k).map (remG first (fresh n)))=k*(4294967295-first+1):=by
   intro k;induction k with
   |zero=>intro _;simp[upTo,sumG]
   |succ k ih=>
    intro hk;rw[upTo_succ,List.map_append,List.map_singleton,sumG_append,ih (by omega)];have:remG first (fresh n) k=4294967295-first+1:=by
     unfold remG;rw[slotOf_nat _ k (by rw[fresh_length];omega)];simp[fresh,nextG]
    rw[this];push_cast;rw[Int.add_mul,Int.one_mul]
  exact hr n (Nat.le_refl _)
end Go.Proofs.YtgfdeiijblakfaaGreat.Tb
namespace Go.Proofs.YtgfdeiijblakfaaGreat.Tb
open Go Go.RowKit Go.Stg
structure GS where
 S:List Slot
 F:List Int
 ret:Int
def slotN (S:List Slot) (m:Nat):Slot:=S.getD m (0,false)
theorem slotN_at {S:List Slot} {m:Nat} (h:m<S.length):slotN S m=S[m]:=by simp[slotN,List.getD_eq_getElem?_getD,List.getElem?_eq_getElem h]
theorem slotN_out {S:List Slot} {m:Nat} (h:S.length≤m):slotN S m=(0,false):=by simp[slotN,List.getD_eq_getElem?_getD,List.getElem?_eq_none h]
theorem slotN_set {S:List Slot} {j:Nat} (h:j<S.length) (z:Slot) (m:Nat):slotN (S.set j z) m=if m=j then z else slotN S m:=by
 unfold slotN;simp only[List.getD_eq_getElem?_getD];by_cases e:m=j
 ·subst e;simp[h]
 ·rw[if_neg e,List.getElem?_set_ne (Ne.symm e)]
def pickI (F:List Int) (d:Int):Nat:=(d%(F.length:Int)).toNat
def pickS (F:List Int) (d:Int):Nat:=(F.getD (pickI F d) 0).toNat
def issG (first:Int) (x:GS) (d:Int):GS:=
 if h:0<x.F.length then⟨x.S.set (pickS x.F d) (nextG first (slotN x.S (pickS x.F d)).1,true),takeAt x.F (pickI x.F d) h,x.ret⟩else x
def issV (first:Int) (x:GS) (d:Int):Value:=
 if 0<x.F.length then .tuple #[.int .i64 (pickS x.F d),.int .i64 (nextG first (slotN x.S (pickS x.F d)).1),.int .i64 0]else .tuple #[.int .i64 0,.int .i64 0,.int .i64 17]
def liveN (S:List Slot) (k:Int):Bool:=decide (0≤k)&&(slotN S k.toNat).2
def endG (x:GS) (k:Int):GS:=
 if liveN x.S k then
  if(slotN x.S k.toNat).1=4294967295 then⟨x.S.set k.toNat ((slotN x.S k.toNat).1,false),x.F,x.ret+1⟩
  else⟨x.S.set k.toNat ((slotN x.S k.toNat).1,false),x.F++[k],x.ret⟩
 else x
def liveC (S:List Slot):Nat:=S.countP (·.2)
structure GInv (n:Nat) (first:Int) (x:GS):Prop where
 len:x.S.length=n
 nd:x.F.Nodup
 free:∀y∈x.F,∃m:Nat,y=m∧m<n∧(slotN x.S m).2=false∧(slotN x.S m).1<4294967295
 gens:∀m,m<n→(slotN x.S m=(0,false))∨(first≤(slotN x.S m).1∧(slotN x.S m).1≤4294967295)
 cnt:(liveC x.S:Int)+x.F.length+x.ret=n
 ret0:0≤x.ret
theorem liveC_set {S:List Slot} {j:Nat} (h:j<S.length) (z:Slot):liveC (S.set j z)+(if(slotN S j).2 then 1 else 0)=liveC S+(if z.2 then 1 else 0):=by
 unfold liveC;rw[List.countP_set h,slotN_at h];have:S[j].2=true→0<S.countP (·.2):=fun e=>List.countP_pos_iff.2 ⟨S[j],List.getElem_mem h,e⟩
 generalize S.countP (·.2)=c at*;cases hs:S[j].2<;>cases z.2<;>simp[hs]at* <;>omega
theorem GInv.start (n:Nat) (first:Int):GInv n first ⟨fresh n,upTo n,0⟩:=by
 have hr:=RInv.start n first
 have hsl:∀m,m<n→slotN (fresh n) m=(0,false):=fun m h=>by rw[slotN_at (by rw[fresh_length];exact h)];simp[fresh]
 refine⟨fresh_length n,hr.nd,fun y hy=> ?_,fun m h=>.inl (hsl m h),?_,Int.le_refl 0⟩
 ·obtain⟨m,e,h⟩:=hr.free y hy;exact⟨m,e,h,by rw[hsl m h],by show(slotN (fresh n) m).1<4294967295;rw[hsl m h];show(0:Int)<4294967295;omega⟩
 ·have:liveC (fresh n)=0:=by
   unfold liveC;rw[List.countP_eq_zero];intro a ha;simp[fresh]at ha;simp[ha]
  simp[this,upTo_length]
theorem liveV_eq (S:List Slot) (k:Int):liveV S k=.tuple #[.int .i64 (if liveN S k then(slotN S k.toNat).1 else 0),.bool (liveN S k)]:=by
 unfold liveV liveN;by_cases h0:0≤k
 ·simp only[h0,decide_true,Bool.true_and,if_true];rcases Nat.lt_or_ge k.toNat S.length with h|h
  ·rw[slotN_at h,List.getElem?_eq_getElem h];rcases hs:S[k.toNat]with⟨g,l⟩
   cases l<;>simp
  ·rw[slotN_out h,List.getElem?_eq_none h];simp
 ·simp[h0]
theorem liveN_iff {S:List Slot} {k:Int} (h:liveN S k=true):∃j:Nat,k=j∧j<S.length∧(slotN S j).2=true:=by
 unfold liveN at h;simp only[Bool.and_eq_true,decide_eq_true_eq]at h;refine⟨k.toNat,by omega,?_,h.2⟩;rcases Nat.lt_or_ge k.toNat S.length with h'|h'
 ·exact h'
 ·rw[slotN_out h']at h;simp at h
section
variable {n:Nat} {first:Int} {x:GS} (h:GInv n first x) (hf1:1≤first) (hf2:first≤4294967295)
include h hf1 hf2
theorem GInv.pick (hn:0<x.F.length) (d:Int):∃(hi:pickI x.F d<x.F.length) (hj:pickS x.F d<x.S.length),d%(x.F.length:Int)=pickI x.F d∧x.F[pickI x.F d]=(pickS x.F d:Int)∧pickS x.F d<n∧x.S[pickS x.F d].2=false∧0≤x.S[pickS x.F d].1∧x.S[pickS x.F d].1<4294967295∧(slotN x.S (pickS x.F d))=x.S[pickS x.F d]:=by
 have e1:=Int.emod_nonneg d (show(x.F.length:Int)≠0 by omega);have e2:=Int.emod_lt_of_pos d (show(0:Int)<x.F.length by omega);have hp:d%(x.F.length:Int)=pickI x.F d:=by unfold pickI;omega
 have hi:pickI x.F d<x.F.length:=by omega
 obtain⟨m,hm,hmn,hd,hl⟩:=h.free x.F[pickI x.F d] (List.getElem_mem hi);have hs:pickS x.F d=m:=by
  unfold pickS;rw[List.getD_eq_getElem?_getD,List.getElem?_eq_getElem hi];simp[hm]
 have hml:m<x.S.length:=by rw[h.len];exact hmn
 have hg:=h.gens m hmn;rw[slotN_at hml]at hd hl hg;subst hs;refine⟨hi,hml,hp,hm,hmn,hd,?_,hl,by rw[slotN_at hml]⟩;rcases hg with e|e
 ·rw[e];exact Int.le_refl 0
 ·omega
theorem GInv.issue (d:Int):GInv n first (issG first x d):=by
 unfold issG;by_cases hn:0<x.F.length
 ·rw[dif_pos hn];obtain⟨hi,hj,hp,hF,hjn,hd,hg0,hg1,hsl⟩:=h.pick hf1 hf2 hn d;generalize pickI x.F d=i at*;generalize pickS x.F d=j at*;have hpm:=takeAt_perm x.F i hn hi;rw[hF]at hpm;have hnd:=List.nodup_cons.1 (hpm.nodup_iff.1 h.nd);have hmem:∀y∈takeAt x.F i hn,y∈x.F:=fun y hy=>hpm.mem_iff.2 (List.mem_cons_of_mem _ hy)
  have hlc:=liveC_set hj (nextG first (slotN x.S j).1,true);rw[hsl,hd]at hlc;rw[hsl];have hlen:=takeAt_length x.F i hn;have hcnt:=h.cnt;refine⟨by rw[List.length_set];exact h.len,hnd.2,fun y hy=> ?_,fun m hm=> ?_,?_,h.ret0⟩
  ·obtain⟨m,e,h1,h2,h3⟩:=h.free y (hmem y hy);have:m≠j:=fun e'=>hnd.1 (by rw[←e', ←e];exact hy)
   exact⟨m,e,h1,by rw[slotN_set hj,if_neg this];exact h2,by show(slotN (x.S.set j _) m).1<_;rw[slotN_set hj,if_neg this];exact h3⟩
  ·show slotN (x.S.set j _) m=_∨_;rw[slotN_set hj];by_cases e:m=j
   ·rw[if_pos e];right;show first≤nextG _ _∧nextG _ _≤_
    have:=h.gens j hjn;rw[hsl]at this;rcases this with e|e
    ·rw[e];simp[nextG];omega
    ·unfold nextG;split<;>omega
   ·rw[if_neg e];exact h.gens m hm
  ·show(liveC (x.S.set j _):Int)+((takeAt x.F i hn).length:Int)+x.ret=n;simp at hlc;omega
 ·rw[dif_neg hn];exact h
omit hf1 hf2 in
theorem GInv.endd (k:Int):GInv n first (endG x k):=by
 unfold endG;by_cases hl:liveN x.S k=true
 ·rw[if_pos hl];obtain⟨j,rfl,hj,hd⟩:=liveN_iff hl;rw[Int.toNat_natCast];have hjn:j<n:=by rw[←h.len];exact hj
  have hg:=h.gens j hjn;have hg1:first≤(slotN x.S j).1∧(slotN x.S j).1≤4294967295:=by
   rcases hg with e|e
   ·rw[e]at hd;cases hd
   ·exact e
  have hlc:=liveC_set hj ((slotN x.S j).1,false);rw[hd]at hlc;simp at hlc;have hcnt:=h.cnt;have hret:=h.ret0;generalize(slotN x.S j).1=g at*;have hfr:∀y∈x.F,∃m:Nat,y=m∧m≠j∧m<n∧(slotN (x.S.set j (g,false)) m).2=false∧(slotN (x.S.set j (g,false)) m).1<4294967295:=fun y hy=>by
   obtain⟨m,e,h1,h2,h3⟩:=h.free y hy;have:m≠j:=fun e'=>by rw[e',hd]at h2;cases h2
   refine⟨m,e,this,h1,?_⟩;rw[slotN_set hj,if_neg this];exact⟨h2,h3⟩
  have hgens:∀m,m<n→(slotN (x.S.set j (g,false)) m=(0,false))∨(first≤(slotN (x.S.set j (g,false)) m).1∧(slotN (x.S.set j (g,false)) m).1≤4294967295):=fun m hm=>by
   rw[slotN_set hj];by_cases e:m=j
   ·rw[if_pos e];exact .inr hg1
   ·rw[if_neg e];exact h.gens m hm
  have hsl:(x.S.set j (g,false)).length=n:=by rw[List.length_set];exact h.len
  by_cases hm:g=4294967295
  ·rw[if_pos hm];exact⟨hsl,h.nd,fun y hy=>let ⟨m,e,_,h1,h2,h3⟩:=hfr y hy;⟨m,e,h1,h2,h3⟩,hgens,by show(liveC (x.S.set j (g,false)):Int)+(x.F.length:Int)+(x.ret+1)=n;omega,by show 0≤x.ret+1;omega⟩
  ·rw[if_neg hm];refine⟨hsl,?_,fun y hy=> ?_,hgens,by show(liveC (x.S.set j (g,false)):Int)+((x.F++[(j:Int)]).length:Int)+x.ret=n;simp;omega,hret⟩
   ·show(x.F++[(j:Int)]).Nodup;rw[List.nodup_append];refine⟨h.nd,by simp,fun y hy z hz e=> ?_⟩;rw[List.mem_singleton.1 hz]at e;obtain⟨m,e1,e2,_⟩:=hfr y hy;omega
   ·rcases List.mem_append.1 hy with hy|hy
    ·obtain⟨m,e,_,h1,h2,h3⟩:=hfr y hy;exact⟨m,e,h1,h2,h3⟩
    ·refine⟨j,List.mem_singleton.1 hy,hjn,?_⟩;show(slotN (x.S.set j (g,false)) j).2=false∧(slotN (x.S.set j (g,false)) j).1<4294967295;rw[slotN_set hj,if_pos rfl];exact⟨rfl,by show g<_;omega⟩
 ·rw[if_neg hl];exact h
end
end Go.Proofs.YtgfdeiijblakfaaGreat.Tb
