/- Joined contracts. No conditions. -/
import Derived.Sort.MapsRangeIn
import Derived.Shelf.SlSortCmp.WholeK
import Derived.Shelf.SlSortCmp.NoneTotal
import Derived.WalkKit
import Derived.OwnWalkIn
import Derived.TacticsInMore
import Derived.Test.YtgfdeiijblakfaaGreatCS
import Derived.Test.YtgfdeiijblakfaaGreatC01
import Derived.Test.YtgfdeiijblakfaaGreatC07
import Derived.Test.YtgfdeiijblakfaaGreatC13
import Derived.Test.YtgfdeiijblakfaaGreatC14
set_option maxHeartbeats 4000000
set_option maxRecDepth 100000
namespace Go.Proofs.YtgfdeiijblakfaaGreat.Bw
open Go Go.RowKit Go.Stg
attribute [local go_sem] Oper.semAt_some
def MapV (w:World) (mv:Value) (bs:List Bor):Prop:=(mv=.map none∧bs=[])∨∃mb,mv=.map (some mb)∧MapIs w mb bs
def IterV (w:World) (r:Nat) (mv:Value) (rest:List Bor):Prop:=(mv=.map none∧rest=[]∧w.heap[r]? =some (.mapIter none 0 #[] 0))∨∃mb,mv=.map (some mb)∧r≠mb∧IterAt w r mb rest
def mapBlk:Value→Option Nat
 | .map m=>m
 |_=>none
theorem MapV.keep {w w':World} {mv:Value} {bs:List Bor} (h:MapV w mv bs) (hk:∀mb,mapBlk mv=some mb→w'.heap[mb]? =w.heap[mb]?):MapV w' mv bs:=by
 rcases h with h|⟨mb,rfl,es,c,h1,h2⟩
 ·exact .inl h
 ·exact .inr ⟨mb,rfl,es,c,(hk mb rfl).trans h1,h2⟩
theorem MapV.lt {w:World} {mv:Value} {bs:List Bor} (h:MapV w mv bs):∀mb,mapBlk mv=some mb→mb<w.heap.size:=by
 rcases h with⟨rfl,_⟩|⟨mb,rfl,es,c,h1,h2⟩
 ·intro mb h;cases h
 ·intro mb' h;cases h;exact lt_of h1
theorem IterV.walk {w:World} {r:Nat} {mv:Value} {rest:List Bor} (h:IterV w r mv rest):∃o:Obj,w.heap[r]? =some o∧o.isWalk=true:=by
 rcases h with⟨_,_,h⟩|⟨_,_,_,_,_,_,_,_,_,h,_⟩
 ·exact⟨_,h,rfl⟩
 ·exact⟨_,h,rfl⟩
theorem IterV.same {w w':World} {r:Nat} {mv:Value} {rest:List Bor} (h:IterV w r mv rest) (h1:∀mb,mapBlk mv=some mb→w'.heap[mb]? =w.heap[mb]?) (h2:w'.heap[r]? =w.heap[r]?):IterV w' r mv rest:=by
 rcases h with⟨e,f,h⟩|⟨mb,e,hr,h⟩
 ·exact .inl ⟨e,f,h2.trans h⟩
 ·subst e;exact .inr ⟨mb,rfl,hr,h.same (h1 mb rfl) h2⟩
theorem range_v {w:World} {mv:Value} {bs:List Bor} (h:MapV w mv bs):∃ob,(Instr.range 88 mv).run Tryz.prog w=.ok (.pointer (some ⟨w.heap.size,0,none⟩)) (w.alloc ob)∧IterV (w.alloc ob) w.heap.size mv bs:=by
 rcases h with⟨rfl,rfl⟩|⟨mb,rfl,h⟩
 ·refine⟨_,?_,.inl ⟨rfl,rfl,at_alloc _ _⟩⟩;unfold Instr.range;simp[run_underlying Tryz.underlying88]
 ·obtain⟨c,h1,h2⟩:=range_b h;refine⟨_,h1,.inr ⟨mb,rfl,?_,h2⟩⟩;obtain⟨es,c,h1,_⟩:=h;have:=lt_of h1;omega
def leftN (w:World) (r:Nat):Nat:=match w.heap[r]? with
 |some (.mapIter (some m) _ seen _)=>match w.heap[m]? with
  |some (.map es _)=>(es.toList.filter fun e=> !seen.contains e.born).length
  |_=>0
 |_=>0
theorem IterV.left {w:World} {r:Nat} {mv:Value} {rest:List Bor} (h:IterV w r mv rest):leftN w r=rest.length:=by
 rcases h with⟨_,rfl,h⟩|⟨mb,_,_,es,c,seen,h1,_,_,h2,h3⟩
 ·unfold leftN;rw[h];rfl
 ·unfold leftN;rw[h2];simp only[h1];exact h3.length
theorem next_over_v {w:World} {r:Nat} {mv:Value} (h:IterV w r mv []) (ty:TypeId):∃w',(Instr.next (.pointer (some ⟨r,0,none⟩)) false ty).run Tryz.prog w=.ok (.tuple #[.bool false]) w'∧Mod [] w w':=by
 rcases h with⟨_,_,h⟩|⟨mb,_,_,h⟩
 ·refine⟨w,?_,Mod.refl _ _⟩;unfold Instr.next;simp[getObj,Sem.run,h,Sem.run_bind]
 ·exact next_over h ty
theorem next_some_v {w:World} {r:Nat} {mv:Value} {rest:List Bor} (h:IterV w r mv rest) (hne:rest≠ []) (ty:TypeId):∃(i:Nat) (b:Bor) (w':World),rest[i]? =some b∧(Instr.next (.pointer (some ⟨r,0,none⟩)) false ty).run Tryz.prog w=.ok (.tuple #[.bool true,kv b.1,bv b]) w'∧IterV w' r mv (rest.eraseIdx i)∧Mod [r] w w'∧w'.heap.size=w.heap.size∧(Instr.entry (.pointer (some ⟨r,0,none⟩))).run Tryz.prog w'=.ok (.tuple #[kv b.1,bv b]) w':=by
 rcases h with⟨_,rfl,_⟩|⟨mb,e,hr,h⟩
 ·exact absurd rfl hne
 ·obtain⟨i,b,w',h1,h2,h3,h4⟩:=next_some h hne hr ty;exact⟨i,b,w',h1,h2,.inr ⟨mb,e,hr,h3⟩,h4⟩
theorem values_made (mv:Value) (hmv:∃m,mv=.map m) (w:World):Calls Tryz.prog 172 #[mv] w fun e w'=>e=.returned (.func (.func 178) #[] #[.pointer (some ⟨w.heap.size,0,none⟩)])∧w'=w.alloc (.cells #[mv] 88):=by
 obtain⟨m,rfl⟩:=hmv;go_enter Tryz.func172,Tryz.ntmps172;go_wp2;go_ret;exact⟨rfl,rfl⟩
theorem grown_mod {a b:World} (h:Mod [] a b) {row:Option Nat}:a.grownBy b row:=
 let hb:=h.below;⟨hb.os,hb.tape,hb.output,hb.size,fun k hk _=>hb.block k hk⟩
def KpV (n₀:Nat) (V V':World):Prop:=RowKit.Below n₀ V V'∧KeepsWalks V V'
theorem perm_take {bs pre rest:List Bor} {i:Nat} {b:Bor} (h:bs.Perm (pre++rest)) (hb:rest[i]? =some b):bs.Perm ((pre++[b])++rest.eraseIdx i):=by
 obtain⟨hi,rfl⟩:=List.getElem?_eq_some_iff.1 hb;refine h.trans ?_;rw[List.append_assoc];refine List.Perm.append_left pre ?_;have e:rest=rest.take i++rest[i]::rest.drop (i+1):=by rw[List.getElem_cons_drop,List.take_append_drop]
 rw[List.eraseIdx_eq_take_drop_succ];conv=>lhs;rw[e]
 exact List.perm_middle
theorem valuesC_in (n':Nat) (hn':1≤n') (l Bs n₀:Nat) {mv:Value} {bs:List Bor} (J Jx:List Bor→World→Prop) (w0 W:World) (h0:n₀≤w0.heap.size) (hR:MapV w0 mv bs) (hf:∀mb,mapBlk mv=some mb→mb<n₀) (hW:RowKit.Below w0.heap.size w0 W)
  (hBs:w0.heap[Bs]? =some (.cells #[mv] 88 (0,0))) (hJ:AbidesFrom W.heap.size J) (h00:J [] W)
  (hY:∀pre x V,J pre V→pre.length<bs.length→YieldAt Fence.wide (n'-1) Tryz.prog l #[bv x] V fun e V'=>
   (e=.returned (.bool true)∧J (pre++[x]) V'∧KpV n₀ V V')∨(e=.returned (.bool false)∧Jx (pre++[x]) V')):
  CallsIn Fence.wide n' Tryz.prog 178 #[.func (.yield l) #[] #[],.pointer (some ⟨Bs,0,none⟩)] W fun e V=>(∃v,e=.returned v)∧((∃xs,xs.Perm bs∧J xs V)∨(∃pre:List Bor,True∧Jx pre V)):=by
 have hMW:MapV W mv bs:=hR.keep fun mb h=>(hW.block mb (by have:=hf mb h;omega))
 have hcl:=(Mod.of_below hW).at hBs (by simp);have hcc:=cells_of hcl;have hmm:∃m,mv=.map m:=by rcases hR with⟨rfl,_⟩|⟨mb,rfl,_⟩<;>exact⟨_,rfl⟩
 obtain⟨m,rfl⟩:=hmm;obtain⟨ob,hr1,hr2⟩:=range_v hMW;have hWsz:=hW.size;have hr2H:=Lib.hid hr2;have hJH:=Lib.hid hJ;have hYH:=Lib.hid hY;have h00H:=Lib.hid h00;have hRH:=Lib.hid hR;have hW1H:=Lib.hid hW;have hfH:=Lib.hid hf;clear hW hBs hJ h00 hY hcl hR hMW hr2 hf;refine callsIn_of_wp Tryz.func178 rfl trivial ?_ rfl;simp only[Tryz.ntmps178,List.size_toArray,List.length_cons,List.length_nil,Nat.reduceAdd,Nat.reduceSub,Array.replicate_succ,Array.replicate_zero,List.push_toArray,List.append_toArray,List.nil_append,List.cons_append];gi_wp2_with fail;have hM0:=(Mod.refl [] W).alloc ob;have hJ0:=Lib.hid (hJH.out _ _ _ none h00H.out (World.grownBy_alloc W ob none) (by simp));have hsz0:(W.alloc ob).heap.size=W.heap.size+1:=by simp
 have hB0:RowKit.Below n₀ w0 (W.alloc ob):=(hW1H.out.mono h0).trans (hM0.below.mono (Nat.le_trans h0 hWsz));have hB0H:=Lib.hid hB0;clear hr1 hM0 hB0 hcc h00H;generalize W.alloc ob=W1 at*;generalize hr:W.heap.size=r at*
 gi_loopw [4] (fun _ wr=>∃pre rest:List Bor,IterV wr r (.map m) rest∧bs.Perm (pre++rest)∧J pre wr∧RowKit.Below n₀ w0 wr∧r<wr.heap.size) (fun _ wr=>leftN wr r)
 case atStart=>exact⟨[],bs,hr2H.out,by simp,hJ0.out,hB0H.out,by omega⟩
 case round=>
  obtain⟨pre,rest,hit,hp,hJr,hBr,hsz⟩:=hrel;have hpH:=Lib.hid hp;have hJrH:=Lib.hid hJr;have hBrH:=Lib.hid hBr;have hitH:=Lib.hid hit;clear hp hJr hBr hJ0 hB0H hr2H;by_cases hne:rest=[]
  ·subst hne;obtain⟨w2,hn1,hn2⟩:=next_over_v hit (0:Nat);clear hit;have hJ2:=hJH.out _ _ _ none hJrH.out (grown_mod hn2) (by simp);have hJ2H:=Lib.hid hJ2;clear hJ2 hn2
   gi_wp2_with fail
   go_end0;exact⟨⟨_,rfl⟩,.inl ⟨pre,by have:=hpH.out;rw[List.append_nil]at this;exact this.symm,hJ2H.out⟩⟩
  ·obtain⟨i,b,w2,hbi,hn1,hit2,hn2,hs2,hen⟩:=next_some_v hit hne (0:Nat);have hwk:=hit.walk;have hg2:wr.grownBy w2 (some r):=⟨hn2.os,hn2.tape,hn2.output,hn2.size,fun k hk hk2=>hn2.block k hk (by simpa using fun e=>hk2 (by rw[e]))⟩;have hJ2:=hJH.out _ _ _ (some r) hJrH.out hg2 (fun r' e=>by cases e;exact⟨Nat.le_refl _,hwk⟩);have hJ3:=hJH.out _ _ _ none hJ2 (World.grownBy_alloc w2 (.cells #[.int .i64 b.1.1,.int .i64 b.1.2,.int .i64 b.2.1,.int .i64 b.2.2] 187) none) (by simp);have hB2:RowKit.Below n₀ wr w2:=⟨hn2.os,hn2.tape,hn2.output,hn2.size,fun k hk=>hn2.block k (by omega) (by simp;omega)⟩;have hB3:=hBrH.out.trans (hB2.trans ((RowKit.Below.refl n₀ w2).alloc (by omega) (.cells #[.int .i64 b.1.1,.int .i64 b.1.2,.int .i64 b.2.1,.int .i64 b.2.2] 187)));have hit3:IterV (w2.alloc (.cells #[.int .i64 b.1.1,.int .i64 b.1.2,.int .i64 b.2.1,.int .i64 b.2.2] 187)) r (.map m) (rest.eraseIdx i):=hit2.same (fun mb hmb=>RowKit.Below.heap_alloc _ _ _ (by have:=hfH.out mb hmb;omega)) (RowKit.Below.heap_alloc _ _ _ (by omega));have hp2:=perm_take hpH.out hbi;have hlen:pre.length<bs.length:=by have:=hp2.length_eq;simp at this;omega
   have hlr:leftN wr r=rest.length:=hit.left;have hil:i<rest.length:=(List.getElem?_eq_some_iff.1 hbi).1;have hYx:=hYH.out pre b _ hJ3 hlen;have hsz3:(w2.alloc (.cells #[.int .i64 b.1.1,.int .i64 b.1.2,.int .i64 b.2.1,.int .i64 b.2.2] 187)).heap.size=wr.heap.size+1:=by simp[hs2]
   have hB3H:=Lib.hid hB3;have hit3H:=Lib.hid hit3;have hp2H:=Lib.hid hp2;have hlrH:=Lib.hid hlr;obtain⟨fn,tmps,assign,body,hy,hR⟩:=hYx;unfold bv at hy hn1 hen;clear hit hJ2 hJ3 hB2 hB3 hit3 hp2 hbi hit2 hn2 hg2 hwk hlen hlr hitH hJrH hpH hBrH
   gi_wp2_with fail
   refine hR.mono ?_;rintro e W3 (⟨rfl,hJ4,hk4,hk5⟩|⟨rfl,hJx4⟩)
   ·have hit4:=hit3H.out.same (fun mb hmb=>hk4.block mb (by have:=hfH.out mb hmb;omega)) (by obtain⟨o,h1,h2⟩:=hit3H.out.walk;rw[h1,hk5.same r o h1 h2]);have hit4H:=Lib.hid hit4;have hB4H:=Lib.hid (hB3H.out.trans hk4);have hJ4H:=Lib.hid hJ4;have hsz4:=hk5.size;clear hit4 hk4 hk5 hJ4
    gi_wp2_with fail
    go_roundw
    case rel=>exact⟨pre++[b],rest.eraseIdx i,hit4H.out,hp2H.out,hJ4H.out,hB4H.out,by omega⟩
    case measure=>rw[hit4H.out.left,hlrH.out,List.length_eraseIdx];simp[hil];omega
   ·gi_wp2_with fail
    refine bodyPost_ret (results_none rfl _ _ _) rfl ?_;exact⟨⟨_,rfl⟩,.inr ⟨_,trivial,hJx4⟩⟩
theorem values_says (n':Nat) (hn':1≤n') (Bs n₀:Nat) {mv:Value} {bs:List Bor} (w0:World) (h0:n₀≤w0.heap.size) (hR:MapV w0 mv bs) (hf:∀mb,mapBlk mv=some mb→mb<n₀)
  (hBs:w0.heap[Bs]? =some (.cells #[mv] 88 (0,0))):
  SeqSays Fence.wide n' Tryz.prog 178 #[.pointer (some ⟨Bs,0,none⟩)] (fun b:Bor=>#[bv b]) (fun _ _ _=>True) (KpV n₀) (fun ys=>ys.Perm bs) (fun _=>True) bs.length w0:=fun l J Jx W hW hJ _ h00 hY=>
 valuesC_in n' hn' l Bs n₀ J Jx w0 W h0 hR hf hW hBs hJ h00 fun pre x V h1 h2=>hY pre x V h1 trivial h2
end Go.Proofs.YtgfdeiijblakfaaGreat.Bw
namespace Go.Proofs.YtgfdeiijblakfaaGreat.Bw
open Go Go.RowKit Go.Stg Go.Sort Go.Proofs
theorem bcell_length (b:Bor):(bcell b).length=4:=rfl
theorem flatK_at (d:Array Bor) (i:Nat) (hi:i<d.size*4):(flat bcell d.toList)[i]? =some ((flatK bcell 4 d)[i]!):=by
 have hq:i/4<d.size:=by omega
 have h1:=flat_at bcell_length d.toList (i/4) (i%4) (by simpa using hq) (Nat.mod_lt _ (by omega));rw[Nat.div_add_mod']at h1;rw[h1,get_flatK bcell 4 d i hi];have e:d[i/4]! =d.toList[i/4]'(by simpa using hq):=by rw[getElem!_pos d (i/4) hq];simp
 rw[e];have hr:i%4<(bcell (d.toList[i/4]'(by simpa using hq))).length:=by rw[bcell_length];exact Nat.mod_lt _ (by omega)
 rw[List.getElem?_eq_getElem hr,getElem!_pos (bcell (d.toList[i/4]'(by simpa using hq))) (i%4) hr]
theorem holds_own {w:World} {base:Nat} {e:TypeId} {g n cap:Nat} {L:List Bor} (h:w.ownsRow base e 4 (.slice (some ⟨g,0,none⟩) n cap) n (flat bcell L)) (hL:L.length=n):HoldsK bcell 4 w g 0 L.toArray:=by
 intro j hj;have hj':j<L.length*4:=by simpa using hj
 rw[Nat.zero_add];refine⟨?_,h.frozenAt j⟩;rw[h.cellAt j (by omega)];have:=flatK_at L.toArray j (by simpa using hj');simpa using this
theorem own_sorted {w:World} {base:Nat} {e:TypeId} {g n cap:Nat} {L:List Bor} (h:w.ownsRow base e 4 (.slice (some ⟨g,0,none⟩) n cap) n (flat bcell L)) (d':Array Bor) (hd:d'.size=n) (m:Nat) (os:Array Obj):
  (sortWorldK bcell 4 w g 0 m d' os).ownsRow base e 4 (.slice (some ⟨g,0,none⟩) n cap) n (flat bcell d'.toList)∧Mod [g] w (sortWorldK bcell 4 w g 0 m d' os):=by
 rcases h.2 with⟨h,_⟩|⟨g',cap',cur,hv,h1,h2,h3,h4,h5,h6⟩
 ·simp at h
 ·simp at hv;obtain⟨rfl,rfl⟩:=hv;have hg:=lt_of h2;have hb:(sortWorldK bcell 4 w g 0 m d' os).heap[g]? =some (.cells (putCells id 0 (flatK bcell 4 d') cur) e (0,0)):=by
   unfold sortWorldK;rw[heap_grow_old _ _ (by simpa[putRowK]using hg)];simp[putRowK,putRow,mapBlock,Sort.ahead,Array.getElem?_modify,h2,onCells]
  refine⟨⟨by rw[flat_length bcell_length];simp[hd],.inr ⟨g,cap,_,rfl,h1,hb,h3,h4,by simp[putCells,h5],?_⟩⟩,⟨rfl,rfl,rfl,?_,fun k hk hkg=> ?_⟩⟩
  ·apply List.ext_getElem?;intro i;by_cases hi:i<n*4
   ·have hic:i<cur.size:=by rw[h5];have:=Nat.mul_le_mul_right 4 h3;omega
    rw[List.getElem?_take_of_lt hi,flatK_at d' i (by rw[hd];exact hi),Array.getElem?_toList];unfold putCells;rw[Array.getElem?_mapIdx,Array.getElem?_eq_getElem hic];simp[hd,hi]
   ·rw[List.getElem?_eq_none (by simp;omega),List.getElem?_eq_none (by rw[flat_length bcell_length];simp[hd];omega)]
  ·unfold sortWorldK grow;simp[putRowK]
  ·unfold sortWorldK;rw[heap_grow_old _ _ (by simpa[putRowK]using hk)];have hne:g≠k:=fun e=>hkg (by simp[e])
   simp[putRowK,putRow,mapBlock,Sort.ahead,Array.getElem?_modify,hne]
def cmpI (x y:Int):Int:=if x<y then -1 else if y<x then 1 else 0
def cf (a b:Bor):Int:=if cmpI a.1.1 b.1.1≠0 then cmpI a.1.1 b.1.1 else cmpI a.1.2 b.1.2
theorem ltOf_cf (a b:Bor):ltOf cf a b=klt a.1 b.1:=by
 unfold ltOf cf cmpI klt;by_cases h1:a.1.1<b.1.1
 ·simp[h1]
 ·by_cases h2:b.1.1<a.1.1
  ·have:¬a.1.1=b.1.1:=by omega
   simp[h2,this,h1]
  ·have:a.1.1=b.1.1:=by omega
   simp[this];by_cases h3:a.1.2<b.1.2
   ·simp[h3]
   ·by_cases h4:b.1.2<a.1.2<;>simp[h3,h4]
theorem swo_cf:SWO (ltOf cf) where
 irrefl x:=by rw[ltOf_cf];exact klt_irrefl _
 trans x y z h1 h2:=by rw[ltOf_cf]at*;exact klt_trans h1 h2
 ntrans x y z h1 h2:=by
  rw[ltOf_cf]at*;simp only[klt,Bool.or_eq_false_iff,Bool.and_eq_false_iff,decide_eq_false_iff_not]at*;omega
theorem sorted_srt {d d':Array Bor} (hn:(d.toList.map (·.1)).Nodup) (hp:PermIn 0 d.size d d') (hs:SortedIn (ltOf cf) 0 d.size d'):Srt d'.toList∧d'.toList.Perm d.toList∧d'.size=d.size:=by
 obtain⟨h1,_,h3⟩:=hp;have hp':d'.toList.Perm d.toList:=by
  have e1:d'.extract 0 d.size=d':=by rw[←h1,Array.extract_size]
  have e2:d.extract 0 d.size=d:=Array.extract_size
  rwa [e1,e2]at h3
 refine⟨?_,hp',h1⟩;have hn':(d'.toList.map (·.1)).Nodup:=((hp'.map _).nodup_iff).2 hn;unfold Srt;rw[List.pairwise_iff_getElem];intro i j hi hj hij;have hi':i<d'.size:=by simpa using hi
 have hj':j<d'.size:=by simpa using hj
 have hs':=hs i j (Nat.zero_le _) hij (by omega);rw[getElem!_pos d' i hi',getElem!_pos d' j hj',ltOf_cf]at hs';have hne:d'[j].1≠d'[i].1:=by
  rw[List.Nodup,List.pairwise_map,List.pairwise_iff_getElem]at hn';have:=hn' i j hi hj hij;simp only[Array.getElem_toList]at this;exact fun e=>this e.symm
 have:=klt_total hne hs';simpa using this
end Go.Proofs.YtgfdeiijblakfaaGreat.Bw
namespace Go.Proofs.YtgfdeiijblakfaaGreat
open Go Go.RowKit Go.Stg
section
variable {P:Program} {ops:Array Oper} {I:World→Prop} {Out:Prop} {Q:Act→World→Prop}
theorem stage_alloc (v:Nat→Value) (ob:Obj) (C':Nat→World→Prop) {o:Oper} {rest:List Oper} {C:World→Prop} {a:Act}
  (hv:∀s s',v s=v s'→s=s') (hw:Region.wanted o (yielded ops a.tmps)=true) (he:eff o=true)
  (hrun:∀w,C w→(execOp a.eval o).run P w=.ok (.value (v w.heap.size)) (w.alloc ob)) (hC:∀w,C w→C' w.heap.size (w.alloc ob)) (hI:∀s w,C' s w→I w)
  (h:∀s,wpStage P ops I Out Q rest (C' s) (a.put o.dst (v s))):wpStage P ops I Out Q (o::rest) C a:=by
 unfold wpStage;simp only[hw,he,if_true];refine⟨fun u=>∃s,u=v s,fun u w=>∃s,u=v s∧C' s w,⟨v 0,0,rfl⟩,fun w hc=> ?_,fun u w ⟨s,h1,h2⟩=>⟨⟨s,h1⟩,.inr (hI s w h2)⟩,fun u ⟨s,hu⟩=> ?_⟩
 ·unfold gives;rw[hrun w hc];exact⟨_,rfl,hC w hc⟩
 ·subst hu;have e:(fun w=>∃s',v s=v s'∧C' s' w)=C' s:=by
   funext w;apply propext;constructor
   ·rintro⟨s',h1,h2⟩;rw[hv _ _ h1];exact h2
   ·intro h;exact⟨s,rfl,h⟩
  have h':=h s;rw[←e]at h';exact h'
theorem stage_write (C':World→Prop) {o:Oper} {rest:List Oper} {C:World→Prop} {a:Act}
  (hw:Region.wanted o (yielded ops a.tmps)=true) (he:eff o=true)
  (hrun:∀w,C w→∃w',(execOp a.eval o).run P w=.ok .skip w'∧C' w') (hI:∀w,C' w→I w)
  (h:wpStage P ops I Out Q rest C' (a.put o.dst undef)):wpStage P ops I Out Q (o::rest) C a:=by
 unfold wpStage;simp only[hw,he,if_true];refine⟨fun u=>u=undef,fun u w=>u=undef∧C' w,⟨undef,rfl⟩,fun w hc=> ?_,fun u w hu=>⟨hu.1,.inr (hI w hu.2)⟩,fun u hu=> ?_⟩
 ·obtain⟨w',hr,h1⟩:=hrun w hc;unfold gives;rw[hr];exact⟨rfl,h1⟩
 ·subst hu;simpa using h
theorem stage_any (V:Value→Prop) (C':Value→World→Prop) {o:Oper} {rest:List Oper} {C:World→Prop} {a:Act}
  (hw:Region.wanted o (yielded ops a.tmps)=true) (he:eff o=true) (hV:∃v,V v)
  (hrun:∀w,C w→∃v w',(execOp a.eval o).run P w=.ok (.value v) w'∧V v∧C' v w') (hI:∀v w,C' v w→I w)
  (h:∀v,V v→wpStage P ops I Out Q rest (C' v) (a.put o.dst v)):wpStage P ops I Out Q (o::rest) C a:=by
 unfold wpStage;simp only[hw,he,if_true];refine⟨V,fun u w=>V u∧C' u w,hV,fun w hc=> ?_,fun u w h1=>⟨h1.1,.inr (hI u w h1.2)⟩,fun u hu=> ?_⟩
 ·obtain⟨v,w',hr,h1,h2⟩:=hrun w hc;unfold gives;rw[hr];exact⟨h1,h2⟩
 ·have e:(fun w=>V u∧C' u w)=C' u:=by
   funext w;simp[hu]
  have h':=h u hu;rw[←e]at h';exact h'
theorem stage_call_any (f:FuncId) (args:Array Value) (V:Value→Prop) (C':Value→World→Prop) {o:Oper} {rest:List Oper} {C:World→Prop} {a:Act} {asz:Array Operand} {ts:Array TypeId}
  (hop:o.op=.call ⟨.value (.func f),asz,ts⟩) (hcall:∀(args:Array Value) w,(callFunc f args).run P w=.ok (.enter f args) w)
  (hw:Region.wanted o (yielded ops a.tmps)=true) (hargs:(asz.toList.map a.eval).toArray=args) (hV:∃v,V v)
  (hc:∀w,C w→Calls P f args w fun e w'=>∃v,e=.returned v∧V v∧C' v w') (hI:∀v w,C' v w→I w)
  (h:∀v,V v→wpStage P ops I Out Q rest (C' v) (a.put o.dst v)):wpStage P ops I Out Q (o::rest) C a:=by
 unfold wpStage;have he:eff o=true:=by simp[eff,hop]
 simp only[hw,he,if_true];refine⟨V,fun u w=>V u∧C' u w,hV,fun w hC=> ?_,fun u w h1=>⟨h1.1,.inr (hI u w h1.2)⟩,fun u hu=> ?_⟩
 ·unfold gives;rw[run_go hop rfl hcall w,hargs];exact(hc w hC).mono fun e w' ⟨v,h1,h2,h3⟩=>by subst h1;exact⟨h2,h3⟩
 ·have e:(fun w=>V u∧C' u w)=C' u:=by
   funext w;simp[hu]
  have h':=h u hu;rw[←e]at h';exact h'
end
theorem wpListIn_append_row {F:Fence} {n':Nat} {P:Program} (w:World) {ops:Array Oper} {rest:List Oper} {o:Oper} {a:Act} {Q:Exit→Act→World→Prop} (hgd:o.guard=none) (s x:Operand) (t:TypeId)
  (ho:o.op=Op.call {callee:=Callee.builtin Builtin.append,args:=#[s,x],argTypes:=#[t,t]})
  (base:Nat) (e:TypeId) (i:TypeInfo) (z:Value) (size bytes:Nat) (ht:P.underlying t=some (.slice e)) (hi:P.info? e=some i) (hz:i.zero=some z)
  (hsize:i.size=size) (hby:i.bytes=bytes) (hzs:z.cells.size=size) (hsz:0<size)
  (v:Value) (n:Nat) (xs:List Value) (hs:a.eval s=v) (hown:w.ownsRow base e size v n xs)
  (ad:Addr) (m c:Nat) (news:List Value) (hx:a.eval x=.slice (some ad) m c) (hl:news.length=m*size) (hnews:∀j u,news[j]? =some u→w.cell? (ad.add j)=some u) (h1:∀u∈news,u.oneCell'=true)
  (h63:n+m≤maxLen) (hbytes:(n+m)*bytes≤140737488355328) (hb:base≤w.heap.size)
  (h:∀v' w',w'.ownsRow base e size v' (n+m) (xs++news)→w.grownBy w' v.ownBlock→(∀x,v'.ownBlock=some x→v.ownBlock=some x∨w.heap.size≤x)→wpListIn F n' P ops Q rest (a.put o.dst v') w'):wpListIn F n' P ops Q (o::rest) a w:=by
 refine wpListIn_plain hgd fun K hK'=> ?_
 obtain⟨v',w',hrun,h2,h3,h4⟩:=run_append_row (P:=P) w t o.type e i z size bytes ht hi hz hsize hby hzs hsz v n xs (row_base hown (Nat.zero_le _)) ad m c news hl hnews h1 h63 hbytes;have h2':w'.ownsRow base e size v' (n+m) (xs++news):=row_all h2 fun g hg=>by
  rcases h4 g hg with h|h
  ·exact(hown.lt g h).1
  ·omega
 unfold Oper.wpIn;refine⟨?_,?_⟩
 ·simp[Oper.about,ho,resolve,Target.leads,Sem.run_pure]
 ·rw[Oper.semAt_plain F _ _ (by rw[ho];intro c hc';cases hc')];simp[execOp,ho,resolve,invoke,builtin,hs,hx,hrun,Result.andThen];exact hK' _ _ (h v' w' h2' h3 h4)
section
variable {P:Program} {ops:Array Oper} {I:World→Prop} {Out:Prop} {Q:Act→World→Prop}
theorem stage_del (C':World→Prop) {o:Oper} {rest:List Oper} {C:World→Prop} {a:Act} {ts:Array TypeId} {d x:Operand} {dv kv:Value} (hop:o.op=.call {callee:=.builtin .delete,args:=#[d,x],argTypes:=ts})
  (hw:Region.wanted o (yielded ops a.tmps)=true) (hd:a.eval d=dv) (hx:a.eval x=kv)
  (hrun:∀w,C w→∃w',(Builtin.delete_ ts o.type #[dv,kv]).run P w=.ok (.tuple #[]) w'∧C' w') (hI:∀w,C' w→I w)
  (h:wpStage P ops I Out Q rest C' (a.put o.dst (.tuple #[]))):wpStage P ops I Out Q (o::rest) C a:=by
 refine stage_any (fun v=>v=.tuple #[]) (fun _ w=>C' w) hw (by simp[eff,hop]) ⟨_,rfl⟩ (fun w hc=> ?_) (fun _=>hI) (fun v hv=>by subst hv;exact h);obtain⟨w',hr,hc'⟩:=hrun w hc;exact⟨_,w',by simp[execOp,hop,resolve,invoke,builtin,hd,hx,hr,Result.andThen],rfl,hc'⟩
end
section
variable {P:Program} {ops:Array Oper} {I:World→Prop} {Out:Prop} {Q:Act→World→Prop}
theorem stage_putLast (C':World→Prop) {o:Oper} {C:World→Prop} {a:Act} {t:TypeId} {m x y:Operand} {mv kv vv:Value} (hop:o.op=.mapUpdate t m x y) (hd:o.dst=none) (hl:lastWaits ops=true)
  (hw:Region.wanted o (yielded ops a.tmps)=true) (hm:a.eval m=mv) (hx:a.eval x=kv) (hy:a.eval y=vv)
  (hrun:∀w,C w→∃w',(Instr.mapUpdate t mv kv vv).run P w=.ok () w'∧C' w') (h:∀w,C' w→Q a w):wpStage P ops I Out Q [o] C a:=by
 unfold wpStage;have he:eff o=true:=by simp[eff,hop]
 simp only[hw,he,if_true];refine⟨fun u=>u=undef,fun u w'=>u=undef∧C' w',⟨undef,rfl⟩,fun w hc=> ?_,fun u w hu=>⟨hu.1,.inl ⟨by simp,hl⟩⟩,fun u hu=> ?_⟩
 ·obtain⟨w',hr,hc'⟩:=hrun w hc;unfold gives;have hr2:(execOp a.eval o).run P w=.ok .skip w':=by simp[execOp,hop,hm,hx,hy,hr]
  rw[hr2];exact⟨rfl,hc'⟩
 ·subst hu;intro w' ⟨_,hc'⟩;rw[hd];exact h w' hc'
end
end Go.Proofs.YtgfdeiijblakfaaGreat
