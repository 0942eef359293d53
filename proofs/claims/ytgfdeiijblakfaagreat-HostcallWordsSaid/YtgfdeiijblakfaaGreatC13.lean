/- Joined contracts. No conditions. -/
import Derived.Test.YtgfdeiijblakfaaGreatProg
import Derived.StillTailTactics
import Derived.WalkSpells
import Derived.Laws.StructEq
import Derived.Test.YtgfdeiijblakfaaGreatCS
import Derived.Test.YtgfdeiijblakfaaGreatC01
set_option maxRecDepth 100000
namespace Go.Proofs.YtgfdeiijblakfaaGreat.Bw
open Go Go.RowKit Go.Stg
abbrev Bor:=(Int×Int)×(Int×Int)
def klt (a b:Int×Int):Bool:=decide (a.1<b.1)||(decide (a.1=b.1)&&decide (a.2<b.2))
theorem klt_iff (a b:Int×Int):klt a b=true↔a.1<b.1∨(a.1=b.1∧a.2<b.2):=by simp[klt]
theorem klt_irrefl (a:Int×Int):klt a a=false:=by simp[klt]
theorem klt_trans {a b c:Int×Int} (h:klt a b=true) (k:klt b c=true):klt a c=true:=by rw[klt_iff]at*;omega
theorem klt_ne {a b:Int×Int} (h:klt a b=true):a≠b:=fun e=>by subst e;rw[klt_irrefl]at h;cases h
theorem klt_asymm {a b:Int×Int} (h:klt a b=true):klt b a=false:=by
 cases hk:klt b a with
 |false=>rfl
 |true=>rw[klt_iff]at*;omega
theorem klt_total {a b:Int×Int} (hne:a≠b) (h:klt a b=false):klt b a=true:=by
 cases hk:klt b a with
 |true=>rfl
 |false=>
  exfalso;apply hne;simp only[klt,Bool.or_eq_false_iff,Bool.and_eq_false_iff,decide_eq_false_iff_not]at h hk;obtain⟨a1,a2⟩:=a;obtain⟨b1,b2⟩:=b;simp only[Prod.mk.injEq]at*;omega
def Srt (L:List Bor):Prop:=L.Pairwise fun a b=>klt a.1 b.1=true
theorem Srt.filter {L:List Bor} (h:Srt L) (p:Bor→Bool):Srt (L.filter p):=List.Pairwise.filter p h
theorem Srt.unique:∀ {L M:List Bor},Srt L→Srt M→L.Perm M→L=M
 | [],M,_,_,hp=>(List.Perm.nil_eq hp)
 |a::L,[],_,_,hp=>absurd hp.length_eq (by simp)
 |a::L,b::M,hL,hM,hp=>by
  have hL1:=List.pairwise_cons.1 hL;have hM1:=List.pairwise_cons.1 hM;have e:a=b:=by
   have ha:a∈b::M:=hp.subset (by simp);have hb:b∈a::L:=hp.symm.subset (by simp);rcases List.mem_cons.1 ha with h|h
   ·exact h
   ·rcases List.mem_cons.1 hb with h'|h'
    ·exact h'.symm
    ·have h1:=hM1.1 a h;have h2:=hL1.1 b h';have:=klt_asymm h1;rw[h2]at this;cases this
  subst e;rw[Srt.unique hL1.2 hM1.2 (List.Perm.cons_inv hp)]
theorem Srt.nodup {L:List Bor} (h:Srt L):(L.map (·.1)).Nodup:=by
 rw[List.Nodup,List.pairwise_map];exact h.imp fun h=>klt_ne h
def without (L:List Bor) (k:Int×Int):List Bor:=L.filter fun b=>decide (b.1≠k)
def getB (L:List Bor) (k:Int×Int):Option Bor:=L.find? fun b=>decide (b.1=k)
theorem getB_some {L:List Bor} {k:Int×Int} {b:Bor} (h:getB L k=some b):b∈L∧b.1=k:=by
 unfold getB at h;exact⟨List.mem_of_find?_eq_some h,by simpa using List.find?_some h⟩
theorem getB_none {L:List Bor} {k:Int×Int} (h:getB L k=none):∀b∈L,b.1≠k:=by
 unfold getB at h;rw[List.find?_eq_none]at h;simpa using h
theorem getB_of {L:List Bor} (h:(L.map (·.1)).Nodup) {b:Bor} (hb:b∈L):getB L b.1=some b:=by
 cases hg:getB L b.1 with
 |none=>exact absurd rfl (getB_none hg b hb)
 |some a=>
  obtain⟨ha,he⟩:=getB_some hg;congr 1;rw[List.Nodup,List.pairwise_map]at h;by_cases hab:a=b
  ·exact hab
  ·exfalso;obtain⟨i,hi,rfl⟩:=List.mem_iff_getElem.1 ha;obtain⟨j,hj,rfl⟩:=List.mem_iff_getElem.1 hb;rw[List.pairwise_iff_getElem]at h;rcases Nat.lt_trichotomy i j with hij|hij|hij
   ·exact h i j hi hj hij he
   ·subst hij;exact hab rfl
   ·exact h j i hj hi hij he.symm
theorem without_none {L:List Bor} {k:Int×Int} (h:getB L k=none):without L k=L:=by
 unfold without;rw[List.filter_eq_self];intro a ha;simpa using getB_none h a ha
def ofO (L:List Bor) (o:Int):List Bor:=L.filter fun b=>decide (b.1.1=o)
def heldH (L:List Bor) (h:Int):List Bor:=L.filter fun b=>decide (b.1.2=h)
structure LInv (N:Int) (L:List Bor):Prop where
 srt:Srt L
 one:∀b∈L,1≤b.2.2∧b.2.2≤N
 mode:∀b∈L,b.2.1=1∨b.2.1=2
 same:∀a∈L,∀b∈L,a.1.1=b.1.1→a.2.1=b.2.1
 excl:∀a∈L,a.2.1=2→a.2.2=1∧∀b∈L,b.1.1=a.1.1→b=a
theorem LInv.nil (N:Int):LInv N []:=⟨List.Pairwise.nil,by simp,by simp,by simp,by simp⟩
theorem LInv.up {N M:Int} {L:List Bor} (h:LInv N L) (hNM:N≤M):LInv M L:=⟨h.srt,fun b hb=>by have:=h.one b hb;omega,h.mode,h.same,h.excl⟩
theorem LInv.filter {N:Int} {L:List Bor} (h:LInv N L) (p:Bor→Bool):LInv N (L.filter p):=
 ⟨h.srt.filter p,fun b hb=>h.one b (List.mem_filter.1 hb).1,fun b hb=>h.mode b (List.mem_filter.1 hb).1,fun a ha b hb=>h.same a (List.mem_filter.1 ha).1 b (List.mem_filter.1 hb).1,
  fun a ha he=>⟨(h.excl a (List.mem_filter.1 ha).1 he).1,fun b hb e=>(h.excl a (List.mem_filter.1 ha).1 he).2 b (List.mem_filter.1 hb).1 e⟩⟩
def modeO (L:List Bor) (o:Int):Int:=match ofO L o with
 | []=>0
 |b::_=>b.2.1
theorem ofO_mem {L:List Bor} {o:Int} {b:Bor}:b∈ofO L o↔b∈L∧b.1.1=o:=by simp[ofO]
theorem modeO_of {N:Int} {L:List Bor} (h:LInv N L) {b:Bor} (hb:b∈L) {o:Int} (ho:b.1.1=o):modeO L o=b.2.1:=by
 unfold modeO;have hm:b∈ofO L o:=ofO_mem.2 ⟨hb,ho⟩
 cases hf:ofO L o with
 |nil=>rw[hf]at hm;cases hm
 |cons a l=>
  have ha:=ofO_mem.1 (show a∈ofO L o by rw[hf];simp);exact h.same a ha.1 b hb (by rw[ha.2,ho])
theorem modeO_range {N:Int} {L:List Bor} (h:LInv N L) (o:Int):modeO L o=0∨modeO L o=1∨modeO L o=2:=by
 cases hf:ofO L o with
 |nil=>left;unfold modeO;rw[hf]
 |cons a l=>
  have ha:=ofO_mem.1 (show a∈ofO L o by rw[hf];simp);have:=modeO_of h ha.1 ha.2;have:=h.mode a ha.1;omega
theorem getB_perm {L:List Bor} (hn:(L.map (·.1)).Nodup) {k:Int×Int} {b:Bor} (hg:getB L k=some b):L.Perm (b::without L k):=by
 obtain⟨hb,hk⟩:=getB_some hg;obtain⟨A,B,rfl⟩:=List.append_of_mem hb;have hno:∀a∈A++B,a.1≠k:=by
  rw[List.map_append,List.map_cons]at hn;have hn:=(List.perm_middle.nodup_iff).1 hn;rw[List.nodup_cons]at hn;intro a ha e;apply hn.1;rw[←List.map_append,hk, ←e];exact List.mem_map_of_mem ha
 have e:without (A++b::B) k=A++B:=by
  unfold without;rw[List.filter_append,List.filter_cons,if_neg (by simp[hk]),List.filter_eq_self.2 (fun a ha=>by simpa using hno a (List.mem_append_left _ ha)),List.filter_eq_self.2 (fun a ha=>by simpa using hno a (List.mem_append_right _ ha))]
 rw[e];exact List.perm_middle
theorem ofO_perm {L M:List Bor} (h:L.Perm M) (o:Int):(ofO L o).Perm (ofO M o):=h.filter _
theorem ofO_cons (b:Bor) (L:List Bor) (o:Int):(ofO (b::L) o).length=(if b.1.1=o then 1 else 0)+(ofO L o).length:=by
 unfold ofO;rw[List.filter_cons];by_cases h:b.1.1=o
 ·simp[h];omega
 ·simp[h]
theorem ofO_without {L:List Bor} (hn:(L.map (·.1)).Nodup) {k:Int×Int} {b:Bor} (hg:getB L k=some b) (o:Int):(ofO L o).length=(if k.1=o then 1 else 0)+(ofO (without L k) o).length:=by
 rw[(ofO_perm (getB_perm hn hg) o).length_eq,ofO_cons,(getB_some hg).2]
def cut (L:List Bor) (p:Bor→Bool):List Bor:=L.filter fun b=> !p b
def kv (k:Int×Int):Value:=.agg #[.int .i64 k.1,.int .i64 k.2]
def bcell (b:Bor):List Value:=[.int .i64 b.1.1,.int .i64 b.1.2,.int .i64 b.2.1,.int .i64 b.2.2]
def bv (b:Bor):Value:=.agg #[.int .i64 b.1.1,.int .i64 b.1.2,.int .i64 b.2.1,.int .i64 b.2.2]
def b0:Bor:=((0,0),(0,0))
def BKeys (es:List MapEntry) (bs:List Bor):Prop:=es.map (·.key)=bs.map (fun b=>kv b.1)∧es.map (·.val)=bs.map bv
theorem BKeys.cons {e:MapEntry} {es:List MapEntry} {b:Bor} {bs:List Bor}:BKeys (e::es) (b::bs)↔e.key=kv b.1∧e.val=bv b∧BKeys es bs:=by
 simp only[BKeys,List.map_cons,List.cons.injEq];constructor
 ·rintro⟨⟨h1,h2⟩,h3,h4⟩;exact⟨h1,h3,h2,h4⟩
 ·rintro⟨h1,h3,h2,h4⟩;exact⟨⟨h1,h2⟩,h3,h4⟩
theorem BKeys.length {es:List MapEntry} {bs:List Bor} (h:BKeys es bs):es.length=bs.length:=by simpa using congrArg List.length h.1
theorem BKeys.get {es:List MapEntry} {bs:List Bor} (h:BKeys es bs) {i:Nat} {e:MapEntry} (he:es[i]? =some e):∃b,bs[i]? =some b∧e.key=kv b.1∧e.val=bv b:=by
 have h1:=congrArg (·[i]?) h.1;have h2:=congrArg (·[i]?) h.2;simp only[List.getElem?_map,he,Option.map_some]at h1 h2
 cases hb:bs[i]? with
 |none=>rw[hb]at h1;simp at h1
 |some b=>
  rw[hb]at h1 h2;simp at h1 h2;exact⟨b,rfl,h1,h2⟩
theorem eq_key (p q:Int×Int) (w:World):(Op.equalIn Op.maxDepth 222 (kv p) (kv q)).run Tryz.prog w=.ok (p.1==q.1&&p.2==q.2) w:=by
 have u3:=Tryz.underlying3;have a3:=Tryz.isAgg3;have z3:=Tryz.sizeOf3;unfold kv;rw[show Op.maxDepth=9999+1 from rfl,run_equalIn_struct w 9999 222 _ _ Tryz.underlying222 (by kernel_rfl)];go_simp;by_cases h1:p.1=q.1<;>by_cases h2:p.2=q.2<;>simp[h1,h2]
theorem check_key (e:Bool) (p:Int×Int) (w:World):(Instr.checkKey e 10000 222 (kv p)).run Tryz.prog w=.ok () w:=by
 have z3:=Tryz.sizeOf3;have a3:=Tryz.isAgg3;have hc:∀v w,(Instr.checkKey e 9999 3 v).run Tryz.prog w=.ok () w:=fun v w=>by
  rw[show(9999:Nat)=9998+1 from rfl];unfold Instr.checkKey;simp[run_underlying Tryz.underlying3]
 rw[show(10000:Nat)=9999+1 from rfl];unfold Instr.checkKey kv;simp only[Sem.run_bind,run_underlying Tryz.underlying222,Result.andThen_ok];go_simp
theorem map_erase {α β:Type} (f:α→β):∀(l:List α) (i:Nat),(l.eraseIdx i).map f=(l.map f).eraseIdx i
 | [],_=>rfl
 |_::_,0=>rfl
 |a::l,i+1=>by simp[map_erase f l i]
def askB (k:Int×Int):List Bor→Nat→Option (Nat×Value)
 | [],_=>none
 |b::r,i=>if b.1=k then some (i,bv b)else askB k r (i+1)
theorem asking (k:Int×Int) (w:World):∀(es:List MapEntry) (bs:List Bor) (i:Nat),BKeys es bs→(Instr.findAsking 222 (kv k) es i).run Tryz.prog w=.ok (askB k bs i) w
 | [],[],i,_=>by simp[Instr.findAsking,askB]
 | [],_::_,_,h=>by simp[BKeys]at h
 |_::_,[],_,h=>by simp[BKeys]at h
 |e::es,b::bs,i,h=>by
  obtain⟨h1,h2,h3⟩:=BKeys.cons.1 h;have he:=eq_key k b.1 w;have ih:=asking k w es bs (i+1) h3;unfold Instr.findAsking askB;by_cases hk:b.1=k
  ·subst hk;have hb:(b.1.1==b.1.1&&b.1.2==b.1.2)=true:=by simp
   rw[hb]at he;simp[h1,h2,Op.equal,he]
  ·have hb:(k.1==b.1.1&&k.2==b.1.2)=false:=by
    simp only[Bool.and_eq_false_iff,beq_eq_false_iff_ne];by_cases h:k.1=b.1.1
    ·right;exact fun h'=>hk (Prod.ext h.symm h'.symm)
    ·exact .inl h
   rw[hb]at he;simp[h1,hk,Op.equal,he,ih]
theorem find_key (k:Int×Int) (w:World) (es:List MapEntry) (bs:List Bor) (h:BKeys es bs):(Instr.findKey 222 (kv k) es).run Tryz.prog w=.ok (askB k bs 0) w:=by
 have ha:=asking k w es bs 0 h;unfold Instr.findKey
 cases es with
 |nil=>
  cases bs with
  |nil=>simp[run_underlying Tryz.underlying222,Instr.findNow,askB]
  |cons b bs=>simp[BKeys]at h
 |cons e es=>simp[run_underlying Tryz.underlying222,Instr.findNow,Instr.sameNow,ha]
theorem askB_none (k:Int×Int):∀(bs:List Bor) (i:Nat),askB k bs i=none→getB bs k=none
 | [],_,_=>rfl
 |b::r,i,h=>by
  unfold askB at h;split at h
  ·cases h
  ·rename_i hn;unfold getB;rw[List.find?_cons_of_neg (by simpa using hn)];exact askB_none k r (i+1) h
theorem askB_some (k:Int×Int):∀(bs:List Bor) (i j:Nat) (v:Value),askB k bs i=some (j,v)→∃d b,j=i+d∧bs[d]? =some b∧b.1=k∧v=bv b∧getB bs k=some b
 | [],_,_,_,h=>by simp[askB]at h
 |b::r,i,j,v,h=>by
  unfold askB at h;split at h
  ·rename_i hk;simp only[Option.some.injEq,Prod.mk.injEq]at h;obtain⟨rfl,rfl⟩:=h;exact⟨0,b,rfl,rfl,hk,rfl,by unfold getB;rw[List.find?_cons_of_pos (by simpa using hk)]⟩
  ·rename_i hn;obtain⟨d,b',h1,h2,h3,h4,h5⟩:=askB_some k r (i+1) j v h;exact⟨d+1,b',by omega,by simpa using h2,h3,h4,by unfold getB at h5⊢;rw[List.find?_cons_of_neg (by simpa using hn)];exact h5⟩
def MapIs (w:World) (mb:Nat) (bs:List Bor):Prop:=∃es c,w.heap[mb]? =some (.map es c)∧BKeys es.toList bs∧(es.toList.map (·.born)).Pairwise (· < ·)∧∀e∈es.toList,e.born<c
theorem MapIs.mod {S:List Nat} {w w':World} {mb:Nat} {bs:List Bor} (h:MapIs w mb bs) (hm:Mod S w w') (hS:mb∉S):MapIs w' mb bs:=by
 obtain⟨es,c,h1,h2⟩:=h;exact⟨es,c,hm.at h1 hS,h2⟩
theorem MapIs.lt {w:World} {mb:Nat} {bs:List Bor} (h:MapIs w mb bs):mb<w.heap.size:=by
 obtain⟨es,c,h1,h2⟩:=h;exact lt_of h1
def foundV (o:Option Bor):Value:=match o with
 |some b=>.tuple #[bv b,.bool true]
 |none=>.tuple #[bv b0,.bool false]
theorem look_b {w:World} {mb:Nat} {bs:List Bor} (h:MapIs w mb bs) (k:Int×Int):(Instr.lookup 88 (.map (some mb)) (.agg #[.int .i64 k.1,.int .i64 k.2]) true).run Tryz.prog w=.ok (foundV (getB bs k)) w:=by
 obtain⟨es,c,hb,hk,_⟩:=h;have hf:=find_key k w es.toList bs hk;have hc:=check_key es.isEmpty k w;unfold kv at hf hc;unfold Instr.lookup
 cases ha:askB k bs 0 with
 |none=>
  rw[ha]at hf;rw[askB_none k bs 0 ha];simp[run_underlying Tryz.underlying88,Stg.run_getObj_map hb,hf,hc,Tryz.zeroValue187,foundV];rfl
 |some p=>
  obtain⟨j,v⟩:=p;rw[ha]at hf;obtain⟨d,b,_,_,_,hv,hg⟩:=askB_some k bs 0 j v ha;rw[hg];subst hv;simp[run_underlying Tryz.underlying88,Stg.run_getObj_map hb,hf,hc,foundV]
theorem look_nil (w:World) (k:Int×Int):(Instr.lookup 88 (.map none) (.agg #[.int .i64 k.1,.int .i64 k.2]) true).run Tryz.prog w=.ok (foundV none) w:=by
 have hf:=find_key k w [] [] ⟨rfl,rfl⟩;have hc:=check_key true k w;unfold kv at hf hc;unfold Instr.lookup;simp[run_underlying Tryz.underlying88,hf,hc,Tryz.zeroValue187,foundV,askB];rfl
theorem set_perm {bs:List Bor} (hn:(bs.map (·.1)).Nodup) {d:Nat} {x b:Bor} (hd:bs[d]? =some x) (hg:getB bs b.1=some x):(bs.set d b).Perm (b::without bs b.1):=by
 obtain⟨hlt,he⟩:=List.getElem?_eq_some_iff.1 hd;have h1:=getB_perm hn hg;have h2:bs.Perm (x::bs.eraseIdx d):=by
  rw[List.eraseIdx_eq_take_drop_succ];have e:bs=bs.take d++x::bs.drop (d+1):=by rw[←he,List.getElem_cons_drop,List.take_append_drop]
  have:=List.perm_middle (a:=x) (l₁:=bs.take d) (l₂:=bs.drop (d+1));rw[←e]at this;exact this
 have h3:(bs.eraseIdx d).Perm (without bs b.1):=List.Perm.cons_inv (h2.symm.trans h1);have h4:(bs.set d b).Perm (b::bs.eraseIdx d):=by
  rw[List.set_eq_take_append_cons_drop,if_pos hlt,List.eraseIdx_eq_take_drop_succ];exact List.perm_middle
 exact h4.trans (h3.cons b)
theorem erase_perm {bs:List Bor} (hn:(bs.map (·.1)).Nodup) {k:Int×Int} {d:Nat} {x:Bor} (hd:bs[d]? =some x) (hg:getB bs k=some x):(bs.eraseIdx d).Perm (without bs k):=by
 obtain⟨hlt,he⟩:=List.getElem?_eq_some_iff.1 hd;have h1:=getB_perm hn hg;have h2:bs.Perm (x::bs.eraseIdx d):=by
  rw[List.eraseIdx_eq_take_drop_succ];have e:bs=bs.take d++x::bs.drop (d+1):=by rw[←he,List.getElem_cons_drop,List.take_append_drop]
  have:=List.perm_middle (a:=x) (l₁:=bs.take d) (l₂:=bs.drop (d+1));rw[←e]at this;exact this
 exact List.Perm.cons_inv (h2.symm.trans h1)
theorem del_b {w:World} {mb:Nat} {bs:List Bor} (h:MapIs w mb bs) (hn:(bs.map (·.1)).Nodup) (k:Int×Int) (ty:TypeId):∃w' bs',(Builtin.delete_ #[88,222] ty #[.map (some mb),.agg #[.int .i64 k.1,.int .i64 k.2]]).run Tryz.prog w=.ok (.tuple #[]) w'∧MapIs w' mb bs'∧Mod [mb] w w'∧w'.heap.size=w.heap.size∧bs'.Perm (without bs k):=by
 obtain⟨es,c,hb,hk,hp,hc⟩:=h;have hf:=find_key k w es.toList bs hk;have hck:=check_key es.isEmpty k w;unfold kv at hf hck
 cases ha:askB k bs 0 with
 |none=>
  rw[ha]at hf;have hg:=askB_none k bs 0 ha;refine⟨{w with heap:=w.heap.setIfInBounds mb (.map es c)},bs,?_,⟨_,_,at_setMap hb,hk,hp,hc⟩,(Mod.refl _ w).setMap (.inl (by simp)) _,by simp,by rw[without_none hg]⟩;unfold Builtin.delete_;simp[run_underlying Tryz.underlying88,Stg.run_getObj_map hb,hf,hck,Stg.run_setObj_map hb]
 |some p=>
  obtain⟨j,v⟩:=p;rw[ha]at hf;obtain⟨d,x,hj,hd,hx,hv,hg⟩:=askB_some k bs 0 j v ha;obtain rfl:j=d:=by omega
  have hlt:j<es.size:=by
   have:=hk.length;have:=(List.getElem?_eq_some_iff.1 hd).1;simp at*;omega
  have he:(es.eraseIdxIfInBounds j).toList=es.toList.eraseIdx j:=by simp[Array.eraseIdxIfInBounds,hlt]
  refine⟨{w with heap:=w.heap.setIfInBounds mb (.map (es.eraseIdxIfInBounds j) c)},bs.eraseIdx j,?_,⟨_,_,at_setMap hb,?_,?_,?_⟩,(Mod.refl _ w).setMap (.inl (by simp)) _,by simp,erase_perm hn hd hg⟩
  ·unfold Builtin.delete_;simp[run_underlying Tryz.underlying88,Stg.run_getObj_map hb,hf,hck,Stg.run_setObj_map hb]
  ·rw[he];exact⟨by rw[map_erase,hk.1, ←map_erase],by rw[map_erase,hk.2, ←map_erase]⟩
  ·rw[he];exact hp.sublist ((List.eraseIdx_sublist _ _).map _)
  ·rw[he];intro e he;exact hc e ((List.eraseIdx_sublist _ _).mem he)
end Go.Proofs.YtgfdeiijblakfaaGreat.Bw
