/- Joined contracts. No conditions. -/
import Derived.Test.YteidpgdfocjdbaaGreatProg
import Derived.StillTailTactics
import Derived.WalkSpells
import Derived.Laws.StructEq
import Derived.Test.YteidpgdfocjdbaaGreatCS
import Derived.Test.YteidpgdfocjdbaaGreatC13
set_option maxRecDepth 100000
namespace Go.Proofs.YteidpgdfocjdbaaGreat.Bw
open Go Go.RowKit Go.Stg
def kv (k:Int×Int):Value:=.agg #[.int .i64 k.1,.int .i64 k.2]
def bcell (b:Bor):List Value:=[.int .i64 b.1.1,.int .i64 b.1.2,.int .i64 b.2.1,.int .i64 b.2.2]
def bv (b:Bor):Value:=.agg #[.int .i64 b.1.1,.int .i64 b.1.2,.int .i64 b.2.1,.int .i64 b.2.2]
def b0:Bor:=((0,0),(0,0))
def BKeys (es:List MapEntry) (bs:List Bor):Prop:=es.map (·.key)=bs.map (fun b=>kv b.1)∧es.map (·.val)=bs.map bv
theorem BKeys.cons {e:MapEntry} {es:List MapEntry} {b:Bor} {bs:List Bor}:BKeys (e::es) (b::bs)↔e.key=kv b.1∧e.val=bv b∧BKeys es bs:=by
 simp only[BKeys,List.map_cons,List.cons.injEq];constructor
 ·rintro⟨⟨h1,h2⟩,h3,h4⟩;exact⟨h1,h3,h2,h4⟩
 ·rintro⟨h1,h3,h2,h4⟩;exact⟨⟨h1,h2⟩,h3,h4⟩
theorem BKeys.length {es:List MapEntry} {bs:List Bor} (h:BKeys es bs):es.length=bs.length:=by simpa using congrArg List.length h.1
theorem BKeys.get {es:List MapEntry} {bs:List Bor} (h:BKeys es bs) {i:Nat} {e:MapEntry} (he:es[i]? =some e):∃b,bs[i]? =some b∧e.key=kv b.1∧e.val=bv b:=by
 have h1:=congrArg (·[i]?) h.1;have h2:=congrArg (·[i]?) h.2;simp only[List.getElem?_map,he,Option.map_some]at h1 h2
 cases hb:bs[i]? with
 |none=>rw[hb]at h1;simp at h1
 |some b=>
  rw[hb]at h1 h2;simp at h1 h2;exact⟨b,rfl,h1,h2⟩
theorem eq_key (p q:Int×Int) (w:World):(Op.equalIn Op.maxDepth 198 (kv p) (kv q)).run Tryz.prog w=.ok (p.1==q.1&&p.2==q.2) w:=by
 have u3:=Tryz.underlying3;have a3:=Tryz.isAgg3;have z3:=Tryz.sizeOf3;unfold kv;rw[show Op.maxDepth=9999+1 from rfl,run_equalIn_struct w 9999 198 _ _ Tryz.underlying198 (by kernel_rfl)];go_simp;by_cases h1:p.1=q.1<;>by_cases h2:p.2=q.2<;>simp[h1,h2]
theorem check_key (e:Bool) (p:Int×Int) (w:World):(Instr.checkKey e 10000 198 (kv p)).run Tryz.prog w=.ok () w:=by
 have z3:=Tryz.sizeOf3;have a3:=Tryz.isAgg3;have hc:∀v w,(Instr.checkKey e 9999 3 v).run Tryz.prog w=.ok () w:=fun v w=>by
  rw[show(9999:Nat)=9998+1 from rfl];unfold Instr.checkKey;simp[run_underlying Tryz.underlying3]
 rw[show(10000:Nat)=9999+1 from rfl];unfold Instr.checkKey kv;simp only[Sem.run_bind,run_underlying Tryz.underlying198,Result.andThen_ok];go_simp
theorem map_erase {α β:Type} (f:α→β):∀(l:List α) (i:Nat),(l.eraseIdx i).map f=(l.map f).eraseIdx i
 | [],_=>rfl
 |_::_,0=>rfl
 |a::l,i+1=>by simp[map_erase f l i]
def askB (k:Int×Int):List Bor→Nat→Option (Nat×Value)
 | [],_=>none
 |b::r,i=>if b.1=k then some (i,bv b)else askB k r (i+1)
theorem asking (k:Int×Int) (w:World):∀(es:List MapEntry) (bs:List Bor) (i:Nat),BKeys es bs→(Instr.findAsking 198 (kv k) es i).run Tryz.prog w=.ok (askB k bs i) w
 | [],[],i,_=>by simp[Instr.findAsking,askB]
 | [],_::_,_,h=>by simp[BKeys]at h
 |_::_,[],_,h=>by simp[BKeys]at h
 |e::es,b::bs,i,h=>by
  obtain⟨h1,h2,h3⟩:=BKeys.cons.1 h;have he:=eq_key k b.1 w;have ih:=asking k w es bs (i+1) h3;unfold Instr.findAsking askB;by_cases hk:b.1=k
  ·subst hk;have hb:(b.1.1==b.1.1&&b.1.2==b.1.2)=true:=by simp
   rw[hb]at he;simp[h1,h2,Op.equal,he]
  ·have hb:(k.1==b.1.1&&k.2==b.1.2)=false:=by
    simp only[Bool.and_eq_false_iff,beq_eq_false_iff_ne];by_cases h:k.1=b.1.1
    ·right;exact fun h'=>hk (Prod.ext h.symm h'.symm)
    ·exact .inl h
   rw[hb]at he;simp[h1,hk,Op.equal,he,ih]
theorem find_key (k:Int×Int) (w:World) (es:List MapEntry) (bs:List Bor) (h:BKeys es bs):(Instr.findKey 198 (kv k) es).run Tryz.prog w=.ok (askB k bs 0) w:=by
 have ha:=asking k w es bs 0 h;unfold Instr.findKey
 cases es with
 |nil=>
  cases bs with
  |nil=>simp[run_underlying Tryz.underlying198,Instr.findNow,askB]
  |cons b bs=>simp[BKeys]at h
 |cons e es=>simp[run_underlying Tryz.underlying198,Instr.findNow,Instr.sameNow,ha]
theorem askB_none (k:Int×Int):∀(bs:List Bor) (i:Nat),askB k bs i=none→getB bs k=none
 | [],_,_=>rfl
 |b::r,i,h=>by
  unfold askB at h;split at h
  ·cases h
  ·rename_i hn;unfold getB;rw[List.find?_cons_of_neg (by simpa using hn)];exact askB_none k r (i+1) h
theorem askB_some (k:Int×Int):∀(bs:List Bor) (i j:Nat) (v:Value),askB k bs i=some (j,v)→∃d b,j=i+d∧bs[d]? =some b∧b.1=k∧v=bv b∧getB bs k=some b
 | [],_,_,_,h=>by simp[askB]at h
 |b::r,i,j,v,h=>by
  unfold askB at h;split at h
  ·rename_i hk;simp only[Option.some.injEq,Prod.mk.injEq]at h;obtain⟨rfl,rfl⟩:=h;exact⟨0,b,rfl,rfl,hk,rfl,by unfold getB;rw[List.find?_cons_of_pos (by simpa using hk)]⟩
  ·rename_i hn;obtain⟨d,b',h1,h2,h3,h4,h5⟩:=askB_some k r (i+1) j v h;exact⟨d+1,b',by omega,by simpa using h2,h3,h4,by unfold getB at h5⊢;rw[List.find?_cons_of_neg (by simpa using hn)];exact h5⟩
def MapIs (w:World) (mb:Nat) (bs:List Bor):Prop:=∃es c,w.heap[mb]? =some (.map es c)∧BKeys es.toList bs∧(es.toList.map (·.born)).Pairwise (· < ·)∧∀e∈es.toList,e.born<c
theorem MapIs.mod {S:List Nat} {w w':World} {mb:Nat} {bs:List Bor} (h:MapIs w mb bs) (hm:Mod S w w') (hS:mb∉S):MapIs w' mb bs:=by
 obtain⟨es,c,h1,h2⟩:=h;exact⟨es,c,hm.at h1 hS,h2⟩
theorem MapIs.lt {w:World} {mb:Nat} {bs:List Bor} (h:MapIs w mb bs):mb<w.heap.size:=by
 obtain⟨es,c,h1,h2⟩:=h;exact lt_of h1
def foundV (o:Option Bor):Value:=match o with
 |some b=>.tuple #[bv b,.bool true]
 |none=>.tuple #[bv b0,.bool false]
theorem look_b {w:World} {mb:Nat} {bs:List Bor} (h:MapIs w mb bs) (k:Int×Int):(Instr.lookup 136 (.map (some mb)) (.agg #[.int .i64 k.1,.int .i64 k.2]) true).run Tryz.prog w=.ok (foundV (getB bs k)) w:=by
 obtain⟨es,c,hb,hk,_⟩:=h;have hf:=find_key k w es.toList bs hk;have hc:=check_key es.isEmpty k w;unfold kv at hf hc;unfold Instr.lookup
 cases ha:askB k bs 0 with
 |none=>
  rw[ha]at hf;rw[askB_none k bs 0 ha];simp[run_underlying Tryz.underlying136,Stg.run_getObj_map hb,hf,hc,Tryz.zeroValue130,foundV];rfl
 |some p=>
  obtain⟨j,v⟩:=p;rw[ha]at hf;obtain⟨d,b,_,_,_,hv,hg⟩:=askB_some k bs 0 j v ha;rw[hg];subst hv;simp[run_underlying Tryz.underlying136,Stg.run_getObj_map hb,hf,hc,foundV]
theorem look_nil (w:World) (k:Int×Int):(Instr.lookup 136 (.map none) (.agg #[.int .i64 k.1,.int .i64 k.2]) true).run Tryz.prog w=.ok (foundV none) w:=by
 have hf:=find_key k w [] [] ⟨rfl,rfl⟩;have hc:=check_key true k w;unfold kv at hf hc;unfold Instr.lookup;simp[run_underlying Tryz.underlying136,hf,hc,Tryz.zeroValue130,foundV,askB];rfl
theorem set_perm {bs:List Bor} (hn:(bs.map (·.1)).Nodup) {d:Nat} {x b:Bor} (hd:bs[d]? =some x) (hg:getB bs b.1=some x):(bs.set d b).Perm (b::without bs b.1):=by
 obtain⟨hlt,he⟩:=List.getElem?_eq_some_iff.1 hd;have h1:=getB_perm hn hg;have h2:bs.Perm (x::bs.eraseIdx d):=by
  rw[List.eraseIdx_eq_take_drop_succ];have e:bs=bs.take d++x::bs.drop (d+1):=by rw[←he,List.getElem_cons_drop,List.take_append_drop]
  have:=List.perm_middle (a:=x) (l₁:=bs.take d) (l₂:=bs.drop (d+1));rw[←e]at this;exact this
 have h3:(bs.eraseIdx d).Perm (without bs b.1):=List.Perm.cons_inv (h2.symm.trans h1);have h4:(bs.set d b).Perm (b::bs.eraseIdx d):=by
  rw[List.set_eq_take_append_cons_drop,if_pos hlt,List.eraseIdx_eq_take_drop_succ];exact List.perm_middle
 exact h4.trans (h3.cons b)
theorem erase_perm {bs:List Bor} (hn:(bs.map (·.1)).Nodup) {k:Int×Int} {d:Nat} {x:Bor} (hd:bs[d]? =some x) (hg:getB bs k=some x):(bs.eraseIdx d).Perm (without bs k):=by
 obtain⟨hlt,he⟩:=List.getElem?_eq_some_iff.1 hd;have h1:=getB_perm hn hg;have h2:bs.Perm (x::bs.eraseIdx d):=by
  rw[List.eraseIdx_eq_take_drop_succ];have e:bs=bs.take d++x::bs.drop (d+1):=by rw[←he,List.getElem_cons_drop,List.take_append_drop]
  have:=List.perm_middle (a:=x) (l₁:=bs.take d) (l₂:=bs.drop (d+1));rw[←e]at this;exact this
 exact List.Perm.cons_inv (h2.symm.trans h1)
theorem put_b {w:World} {mb:Nat} {bs:List Bor} (h:MapIs w mb bs) (hn:(bs.map (·.1)).Nodup) (b:Bor):∃w' bs',(Instr.mapUpdate 136 (.map (some mb)) (.agg #[.int .i64 b.1.1,.int .i64 b.1.2]) (.agg #[.int .i64 b.1.1,.int .i64 b.1.2,.int .i64 b.2.1,.int .i64 b.2.2])).run Tryz.prog w=.ok () w'∧MapIs w' mb bs'∧Mod [mb] w w'∧w'.heap.size=w.heap.size∧bs'.Perm (b::without bs b.1):=by
 obtain⟨es,c,hb,hk,hp,hc⟩:=h;have hf:=find_key b.1 w es.toList bs hk;have hck:=check_key false b.1 w;unfold kv at hf hck
 cases ha:askB b.1 bs 0 with
 |none=>
  rw[ha]at hf;have hg:=askB_none b.1 bs 0 ha;refine⟨{w with heap:=w.heap.setIfInBounds mb (.map (es.push {key:=kv b.1,val:=bv b,born:=c}) (c+1))},bs++[b],?_,⟨_,_,at_setMap hb,?_,?_,?_⟩,(Mod.refl _ w).setMap (.inl (by simp)) _,by simp,?_⟩
  ·unfold Instr.mapUpdate;simp[run_underlying Tryz.underlying136,Stg.run_getObj_map hb,hf,hck,Stg.run_setObj_map hb,kv,bv]
  ·rw[Array.toList_push];exact⟨by rw[List.map_append,List.map_append,hk.1];rfl,by rw[List.map_append,List.map_append,hk.2];rfl⟩
  ·rw[Array.toList_push,List.map_append,List.pairwise_append];refine⟨hp,by simp,fun x hx y hy=> ?_⟩;obtain⟨e,he,rfl⟩:=List.mem_map.1 hx;simp at hy;subst hy;exact hc e he
  ·intro e he;rw[Array.toList_push]at he;rcases List.mem_append.1 he with he|he
   ·have:=hc e he;omega
   ·rw[List.mem_singleton.1 he];exact Nat.lt_succ_self c
  ·rw[without_none hg];exact List.perm_append_comm
 |some p=>
  obtain⟨j,v⟩:=p;rw[ha]at hf;obtain⟨d,x,hj,hd,hx,hv,hg⟩:=askB_some b.1 bs 0 j v ha;obtain rfl:j=d:=by omega
  have hlt:j<es.toList.length:=by rw[hk.length];exact(List.getElem?_eq_some_iff.1 hd).1
  have hej:es.toList[j]? =some es.toList[j]:=List.getElem?_eq_getElem hlt;obtain⟨x',hx',hkey,_⟩:=hk.get hej;obtain rfl:x'=x:=Option.some.inj (hx'.symm.trans hd);have hej2:es[j]? =some es.toList[j]:=by rw[←Array.getElem?_toList];exact hej
  refine⟨{w with heap:=w.heap.setIfInBounds mb (.map (es.modify j fun e=>{e with key:=kv b.1,val:=bv b}) c)},bs.set j b,?_,⟨_,_,at_setMap hb,?_,?_,?_⟩,(Mod.refl _ w).setMap (.inl (by simp)) _,by simp,set_perm hn hd hg⟩
  ·unfold Instr.mapUpdate;rw[hx]at hkey;have hkey':es[j]'(by simpa using hlt)=es.toList[j]:=by simp
   rw[←hkey']at hkey hej2;unfold kv at hkey;simp[run_underlying Tryz.underlying136,Stg.run_getObj_map hb,hf,hck,Stg.run_setObj_map hb,kv,bv,hej2,hkey,Instr.keyThatStays,Instr.sameBits]
  ·rw[Array.toList_modify];refine⟨?_,?_⟩
   ·apply List.ext_getElem?;intro i;have h1:=congrArg (·[i]?) hk.1;simp only[List.getElem?_map]at h1;rw[List.getElem?_map,List.getElem?_map,List.getElem?_modify,List.getElem?_set];by_cases hij:j=i
    ·subst hij;have hl2:j<bs.length:=(List.getElem?_eq_some_iff.1 hd).1;simp[hej,hl2]
    ·simpa[hij]using h1
   ·apply List.ext_getElem?;intro i;have h1:=congrArg (·[i]?) hk.2;simp only[List.getElem?_map]at h1;rw[List.getElem?_map,List.getElem?_map,List.getElem?_modify,List.getElem?_set];by_cases hij:j=i
    ·subst hij;have hl2:j<bs.length:=(List.getElem?_eq_some_iff.1 hd).1;simp[hej,hl2]
    ·simpa[hij]using h1
  ·have e:(es.modify j fun e=>{e with key:=kv b.1,val:=bv b}).toList.map (·.born)=es.toList.map (·.born):=by
    rw[Array.toList_modify];apply List.ext_getElem?;intro i;rw[List.getElem?_map,List.getElem?_map,List.getElem?_modify]
    cases es.toList[i]? with
    |none=>rfl
    |some e=>by_cases hij:j=i<;>simp[hij]
   rw[e];exact hp
  ·intro e he;rw[Array.toList_modify]at he;obtain⟨i,hi,rfl⟩:=List.mem_iff_getElem.1 he;rw[List.getElem_modify];have:=hc _ (List.getElem_mem (show i<es.toList.length by simpa using hi));split<;>exact this
theorem del_b {w:World} {mb:Nat} {bs:List Bor} (h:MapIs w mb bs) (hn:(bs.map (·.1)).Nodup) (k:Int×Int) (ty:TypeId):∃w' bs',(Builtin.delete_ #[136,198] ty #[.map (some mb),.agg #[.int .i64 k.1,.int .i64 k.2]]).run Tryz.prog w=.ok (.tuple #[]) w'∧MapIs w' mb bs'∧Mod [mb] w w'∧w'.heap.size=w.heap.size∧bs'.Perm (without bs k):=by
 obtain⟨es,c,hb,hk,hp,hc⟩:=h;have hf:=find_key k w es.toList bs hk;have hck:=check_key es.isEmpty k w;unfold kv at hf hck
 cases ha:askB k bs 0 with
 |none=>
  rw[ha]at hf;have hg:=askB_none k bs 0 ha;refine⟨{w with heap:=w.heap.setIfInBounds mb (.map es c)},bs,?_,⟨_,_,at_setMap hb,hk,hp,hc⟩,(Mod.refl _ w).setMap (.inl (by simp)) _,by simp,by rw[without_none hg]⟩;unfold Builtin.delete_;simp[run_underlying Tryz.underlying136,Stg.run_getObj_map hb,hf,hck,Stg.run_setObj_map hb]
 |some p=>
  obtain⟨j,v⟩:=p;rw[ha]at hf;obtain⟨d,x,hj,hd,hx,hv,hg⟩:=askB_some k bs 0 j v ha;obtain rfl:j=d:=by omega
  have hlt:j<es.size:=by
   have:=hk.length;have:=(List.getElem?_eq_some_iff.1 hd).1;simp at*;omega
  have he:(es.eraseIdxIfInBounds j).toList=es.toList.eraseIdx j:=by simp[Array.eraseIdxIfInBounds,hlt]
  refine⟨{w with heap:=w.heap.setIfInBounds mb (.map (es.eraseIdxIfInBounds j) c)},bs.eraseIdx j,?_,⟨_,_,at_setMap hb,?_,?_,?_⟩,(Mod.refl _ w).setMap (.inl (by simp)) _,by simp,erase_perm hn hd hg⟩
  ·unfold Builtin.delete_;simp[run_underlying Tryz.underlying136,Stg.run_getObj_map hb,hf,hck,Stg.run_setObj_map hb]
  ·rw[he];exact⟨by rw[map_erase,hk.1, ←map_erase],by rw[map_erase,hk.2, ←map_erase]⟩
  ·rw[he];exact hp.sublist ((List.eraseIdx_sublist _ _).map _)
  ·rw[he];intro e he;exact hc e ((List.eraseIdx_sublist _ _).mem he)
theorem filter_born:∀ {l:List MapEntry} {i:Nat},(l.map (·.born)).Pairwise (· < ·)→(hi:i<l.length)→l.filter (fun e=>e.born != l[i].born)=l.eraseIdx i
 | [],i,_,hi=>by simp at hi
 |e::l,0,hp,_=>by
  rw[List.map_cons,List.pairwise_cons]at hp;simp only[List.getElem_cons_zero,List.eraseIdx_cons_zero,List.filter_cons];rw[if_neg (by simp),List.filter_eq_self];intro a ha;have:=hp.1 a.born (List.mem_map_of_mem ha);simp;omega
 |e::l,i+1,hp,hi=>by
  rw[List.map_cons,List.pairwise_cons]at hp;have hi':i<l.length:=by simpa using hi
  simp only[List.getElem_cons_succ,List.eraseIdx_cons_succ,List.filter_cons];have:=hp.1 l[i].born (List.mem_map_of_mem (List.getElem_mem hi'));rw[if_pos (by simp;omega),filter_born hp.2 hi']
theorem BKeys.erase {es:List MapEntry} {bs:List Bor} (h:BKeys es bs) (i:Nat):BKeys (es.eraseIdx i) (bs.eraseIdx i):=
 ⟨by rw[map_erase,h.1, ←map_erase],by rw[map_erase,h.2, ←map_erase]⟩
def IterAt (w:World) (r mb:Nat) (rest:List Bor):Prop:=
 ∃es c seen,w.heap[mb]? =some (.map es c)∧(es.toList.map (·.born)).Pairwise (· < ·)∧(∀e∈es.toList,e.born<c)∧w.heap[r]? =some (.mapIter (some mb) c seen c)∧BKeys (es.toList.filter fun e=> !seen.contains e.born) rest
theorem IterAt.same {w w':World} {r mb:Nat} {rest:List Bor} (h:IterAt w r mb rest) (h1:w'.heap[mb]? =w.heap[mb]?) (h2:w'.heap[r]? =w.heap[r]?):IterAt w' r mb rest:=by
 obtain⟨es,c,seen,k1,k2,k3,k4,k5⟩:=h;exact⟨es,c,seen,h1.trans k1,k2,k3,h2.trans k4,k5⟩
theorem range_b {w:World} {mb:Nat} {bs:List Bor} (h:MapIs w mb bs):∃c,(Instr.range 136 (.map (some mb))).run Tryz.prog w=.ok (.pointer (some ⟨w.heap.size,0,none⟩)) (w.alloc (.mapIter (some mb) c #[] c))∧IterAt (w.alloc (.mapIter (some mb) c #[] c)) w.heap.size mb bs:=by
 obtain⟨es,c,hb,hk,hp,hc⟩:=h;refine⟨c,?_,es,c,#[],at_alloc_old hb,hp,hc,at_alloc _ _,by rw[List.filter_eq_self.2 (fun a _=>by simp)];exact hk⟩;unfold Instr.range;simp[run_underlying Tryz.underlying136,Stg.run_getObj_map hb]
theorem run_getObj_iter {P:Program} {w:World} {r m since last:Nat} {seen:Array Nat} (hr:w.heap[r]? =some (.mapIter (some m) since seen last)):(getObj r).run P w=.ok (.mapIter (some m) since seen last) w:=by
 simp[getObj,Sem.run,hr]
theorem run_setObj_iter {P:Program} {w:World} {r m since last:Nat} {seen:Array Nat} (hr:w.heap[r]? =some (.mapIter (some m) since seen last)) (o:Obj):(setObj r o).run P w=.ok () {w with heap:=w.heap.setIfInBounds r o}:=by
 simp[setObj,Sem.run,hr]
theorem next_over {w:World} {r mb:Nat} (h:IterAt w r mb []) (ty:TypeId):∃w',(Instr.next (.pointer (some ⟨r,0,none⟩)) false ty).run Tryz.prog w=.ok (.tuple #[.bool false]) w'∧Mod [] w w':=by
 obtain⟨es,c,seen,k1,k2,k3,k4,k5⟩:=h;have hnil:es.toList.filter (fun e=> !seen.contains e.born)=[]:=List.eq_nil_of_length_eq_zero k5.length;have hl:es.filter (fun e=> !seen.contains e.born)=#[]:=by rw[←Array.toList_eq_nil_iff,Array.toList_filter];exact hnil
 have hchk:(!seen.isEmpty&& !es.isEmpty&&es.all fun e=>decide (e.born≥c))=false:=by
  by_cases he:es.isEmpty=true
  ·simp[he]
  ·have:∃e,e∈es.toList:=by
    cases hes:es.toList with
    |nil=>exact absurd (by simpa[Array.isEmpty]using hes) he
    |cons a l=>exact⟨a,by simp⟩
   obtain⟨e,hm⟩:=this;have hlt:=k3 e hm;have:(es.all fun e=>decide (e.born≥c))=false:=by
    rw[Array.all_eq_false];obtain⟨i,hi,rfl⟩:=List.mem_iff_getElem.1 hm;exact⟨i,by simpa using hi,by simp at hlt⊢;omega⟩
   rw[this];simp
 refine⟨w,?_,Mod.refl _ _⟩;unfold Instr.next;simp only[Sem.run_bind,run_getObj_iter k4,Result.andThen_ok,Stg.run_getObj_map k1,hchk,hl];simp[Question.forced]
theorem find_born:∀ {l:List MapEntry} {e:MapEntry},(l.map (·.born)).Pairwise (· < ·)→e∈l→l.find? (fun a=>a.born==e.born)=some e
 | [],_,_,h=>by cases h
 |a::l,e,hp,h=>by
  rw[List.map_cons,List.pairwise_cons]at hp;rcases List.mem_cons.1 h with rfl|h
  ·simp
  ·have:=hp.1 e.born (List.mem_map_of_mem h);rw[List.find?_cons_of_neg (by simp;omega)];exact find_born hp.2 h
theorem choose_next {P:Program} (w:World) (n:Nat) (hn:1≤n):∃i w1,(choose (.mapNext n)).run P w=.ok i w1∧i<n∧Mod [] w w1∧w1.heap=w.heap:=by
 rw[run_choose_drew];split
 ·exact⟨0,w,rfl,hn,Mod.refl _ _,rfl⟩
 ·exact⟨_,w.drew,rfl,Nat.mod_lt _ hn,(Mod.refl _ _).drew,rfl⟩
theorem not_contains_push (seen:Array Nat) (x y:Nat):(!(seen.push x).contains y)=(!seen.contains y&&y != x):=by
 by_cases h:y=x
 ·subst h;simp
 ·have h2:¬x=y:=fun e=>h e.symm
  simp[h]
theorem next_some {w:World} {r mb:Nat} {rest:List Bor} (h:IterAt w r mb rest) (hne:rest≠ []) (hrm:r≠mb) (ty:TypeId):∃(i:Nat) (b:Bor) (w':World),rest[i]? =some b∧(Instr.next (.pointer (some ⟨r,0,none⟩)) false ty).run Tryz.prog w=.ok (.tuple #[.bool true,kv b.1,bv b]) w'∧IterAt w' r mb (rest.eraseIdx i)∧Mod [r] w w'∧w'.heap.size=w.heap.size∧(Instr.entry (.pointer (some ⟨r,0,none⟩))).run Tryz.prog w'=.ok (.tuple #[kv b.1,bv b]) w':=by
 obtain⟨es,c,seen,k1,k2,k3,k4,k5⟩:=h;obtain⟨A,hA⟩:∃A,es.filter (fun e=> !seen.contains e.born)=A:=⟨_,rfl⟩;have hAl:es.toList.filter (fun e=> !seen.contains e.born)=A.toList:=by rw[←hA,Array.toList_filter]
 rw[hAl]at k5;have hsz:A.size=rest.length:=by have:=k5.length;simpa using this
 have hpos:1≤A.size:=by rw[hsz];exact Nat.pos_of_ne_zero fun e=>hne (List.eq_nil_of_length_eq_zero e)
 have hlt:∀e∈A.toList,e.born<c:=fun e he=>by rw[←hAl]at he;exact k3 e (List.mem_filter.1 he).1
 have hold:A.filter (fun e=>decide (e.born<c))=A:=by
  apply Array.toList_inj.1;rw[Array.toList_filter,List.filter_eq_self];intro e he;simpa using hlt e he
 have hnew:A.filter (fun e=>decide (e.born≥c))=#[]:=by
  apply Array.toList_inj.1;rw[Array.toList_filter];apply List.filter_eq_nil_iff.2;intro e he;have:=hlt e he;simp;omega
 have hchk:(!seen.isEmpty&& !es.isEmpty&&es.all fun e=>decide (e.born≥c))=false:=by
  have hm:A[0]∈es.toList:=by
   have:A[0]∈A.toList:=by simp
   rw[←hAl]at this;exact(List.mem_filter.1 this).1
  have hl:=k3 _ hm;have:(es.all fun e=>decide (e.born≥c))=false:=by
   rw[Array.all_eq_false];obtain⟨i,hi,he⟩:=List.mem_iff_getElem.1 hm;refine⟨i,by simpa using hi,?_⟩;have he:es[i]'(by simpa using hi)=A[0]:=by simpa using he
   rw[he];simp;omega
  rw[this];simp
 obtain⟨i,w1,hch,hi,hm1,hh1⟩:=choose_next (P:=Tryz.prog) w A.size hpos;have hiA:A[i]? =some A[i]:=by simp[hi]
 obtain⟨b,hb,hkey,hval⟩:=k5.get (i:=i) (e:=A[i]) (by rw[Array.getElem?_toList];exact hiA);have hr1:w1.heap[r]? =some (.mapIter (some mb) c seen c):=by rw[hh1];exact k4
 have hs1:w1.heap.size=w.heap.size:=by rw[hh1]
 have hrl:=lt_of k4;refine⟨i,b,{w1 with heap:=w1.heap.setIfInBounds r (.mapIter (some mb) c (seen.push A[i].born) c)},hb,?_,?_,?_,by simp[hs1],?_⟩
 ·have hemp:A.isEmpty=false:=by
   cases h:A.isEmpty with
   |false=>rfl
   |true=>have:=Array.isEmpty_iff_size_eq_zero.1 h;omega
  have hcand:(A.map some)[i]? =some (some A[i]):=by rw[Array.getElem?_map,hiA];rfl
  unfold Instr.next;simp only[Sem.run_bind,run_getObj_iter k4,Result.andThen_ok,Stg.run_getObj_map k1,hchk,hA,hold,hnew];simp only[Bool.false_eq_true,if_false,hemp,Array.append_empty,Array.empty_append,Array.size_map];simp only[hch,Result.andThen_ok,hcand,Sem.run_bind,run_setObj_iter hr1,Sem.run_pure,hkey,hval]
 ·refine⟨es,c,seen.push A[i].born,?_,k2,k3,?_,?_⟩
  ·show(w1.heap.setIfInBounds r _)[mb]? =_;rw[Array.getElem?_setIfInBounds_ne hrm,hh1];exact k1
  ·show(w1.heap.setIfInBounds r _)[r]? =_;rw[Array.getElem?_setIfInBounds_self_of_lt (by rw[hs1];exact hrl)]
  ·have e:es.toList.filter (fun e=> !(seen.push A[i].born).contains e.born)=(es.toList.filter (fun e=> !seen.contains e.born)).filter (fun e=>e.born != A[i].born):=by
    rw[List.filter_filter];congr 1;funext e;rw[not_contains_push,Bool.and_comm]
   have hpA:(A.toList.map (·.born)).Pairwise (· < ·):=by
    rw[←hAl];exact k2.sublist ((List.filter_sublist).map _)
   have hfb:=filter_born hpA (i:=i) (by simpa using hi);rw[e,hAl];have e2:A.toList[i]'(by simpa using hi)=A[i]:=by simp
   rw[e2]at hfb;rw[hfb];exact k5.erase i
 ·refine⟨hm1.os,hm1.tape,hm1.output,by simp[hs1],fun k hk hkr=> ?_⟩;show(w1.heap.setIfInBounds r _)[k]? =_;rw[Array.getElem?_setIfInBounds_ne (fun e=>hkr (by simp[e])),hh1]
 ·have e1:(w1.heap.setIfInBounds r (.mapIter (some mb) c (seen.push A[i].born) c))[mb]? =some (.map es c):=by
   rw[Array.getElem?_setIfInBounds_ne hrm,hh1];exact k1
  have e2:(w1.heap.setIfInBounds r (.mapIter (some mb) c (seen.push A[i].born) c))[r]? =some (.mapIter (some mb) c (seen.push A[i].born) c):=by
   rw[Array.getElem?_setIfInBounds_self_of_lt (by rw[hs1];exact hrl)]
  have hmem:A[i]∈es.toList:=by
   have:A[i]∈A.toList:=by simp
   rw[←hAl]at this;exact(List.mem_filter.1 this).1
  have hfind:es.find? (fun e=>e.born==A[i].born)=some A[i]:=by
   rw[←Array.find?_toList];exact find_born k2 hmem
  unfold Instr.entry;simp[run_getObj_iter (w:={w1 with heap:=w1.heap.setIfInBounds r (.mapIter (some mb) c (seen.push A[i].born) c)}) e2,Stg.run_getObj_map (w:={w1 with heap:=w1.heap.setIfInBounds r (.mapIter (some mb) c (seen.push A[i].born) c)}) e1,hfind,hkey,hval]
end Go.Proofs.YteidpgdfocjdbaaGreat.Bw
