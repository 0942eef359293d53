/- Joined contracts. No conditions. -/
import Derived.RangeFuncNested
import Derived.RangeFuncBound
import Derived.RangeFuncCalls
import Derived.RangeFuncLeaves
import Derived.RangeFuncBox
import Derived.Shelf.Abstract
import Derived.Shelf.RegionOpen
import Derived.WalkKit
import Derived.OwnWalkIn
import Derived.TacticsInMore
import Derived.LoopNIn
import Derived.LoopIn
import Derived.Maps.AppendAt
import Derived.Test.YtgfdeiijblakfaaGreatCS
import Derived.Test.YtgfdeiijblakfaaGreatC01
import Derived.Test.YtgfdeiijblakfaaGreatC13
namespace Go.Proofs.YtgfdeiijblakfaaGreat.Bw
open Go Go.RowKit Go.Stg
theorem filter_born:∀ {l:List MapEntry} {i:Nat},(l.map (·.born)).Pairwise (· < ·)→(hi:i<l.length)→l.filter (fun e=>e.born != l[i].born)=l.eraseIdx i
 | [],i,_,hi=>by simp at hi
 |e::l,0,hp,_=>by
  rw[List.map_cons,List.pairwise_cons]at hp;simp only[List.getElem_cons_zero,List.eraseIdx_cons_zero,List.filter_cons];rw[if_neg (by simp),List.filter_eq_self];intro a ha;have:=hp.1 a.born (List.mem_map_of_mem ha);simp;omega
 |e::l,i+1,hp,hi=>by
  rw[List.map_cons,List.pairwise_cons]at hp;have hi':i<l.length:=by simpa using hi
  simp only[List.getElem_cons_succ,List.eraseIdx_cons_succ,List.filter_cons];have:=hp.1 l[i].born (List.mem_map_of_mem (List.getElem_mem hi'));rw[if_pos (by simp;omega),filter_born hp.2 hi']
theorem BKeys.erase {es:List MapEntry} {bs:List Bor} (h:BKeys es bs) (i:Nat):BKeys (es.eraseIdx i) (bs.eraseIdx i):=
 ⟨by rw[map_erase,h.1, ←map_erase],by rw[map_erase,h.2, ←map_erase]⟩
def IterAt (w:World) (r mb:Nat) (rest:List Bor):Prop:=
 ∃es c seen,w.heap[mb]? =some (.map es c)∧(es.toList.map (·.born)).Pairwise (· < ·)∧(∀e∈es.toList,e.born<c)∧w.heap[r]? =some (.mapIter (some mb) c seen c)∧BKeys (es.toList.filter fun e=> !seen.contains e.born) rest
theorem IterAt.same {w w':World} {r mb:Nat} {rest:List Bor} (h:IterAt w r mb rest) (h1:w'.heap[mb]? =w.heap[mb]?) (h2:w'.heap[r]? =w.heap[r]?):IterAt w' r mb rest:=by
 obtain⟨es,c,seen,k1,k2,k3,k4,k5⟩:=h;exact⟨es,c,seen,h1.trans k1,k2,k3,h2.trans k4,k5⟩
theorem range_b {w:World} {mb:Nat} {bs:List Bor} (h:MapIs w mb bs):∃c,(Instr.range 88 (.map (some mb))).run Tryz.prog w=.ok (.pointer (some ⟨w.heap.size,0,none⟩)) (w.alloc (.mapIter (some mb) c #[] c))∧IterAt (w.alloc (.mapIter (some mb) c #[] c)) w.heap.size mb bs:=by
 obtain⟨es,c,hb,hk,hp,hc⟩:=h;refine⟨c,?_,es,c,#[],at_alloc_old hb,hp,hc,at_alloc _ _,by rw[List.filter_eq_self.2 (fun a _=>by simp)];exact hk⟩;unfold Instr.range;simp[run_underlying Tryz.underlying88,Stg.run_getObj_map hb]
theorem run_getObj_iter {P:Program} {w:World} {r m since last:Nat} {seen:Array Nat} (hr:w.heap[r]? =some (.mapIter (some m) since seen last)):(getObj r).run P w=.ok (.mapIter (some m) since seen last) w:=by
 simp[getObj,Sem.run,hr]
theorem run_setObj_iter {P:Program} {w:World} {r m since last:Nat} {seen:Array Nat} (hr:w.heap[r]? =some (.mapIter (some m) since seen last)) (o:Obj):(setObj r o).run P w=.ok () {w with heap:=w.heap.setIfInBounds r o}:=by
 simp[setObj,Sem.run,hr]
theorem next_over {w:World} {r mb:Nat} (h:IterAt w r mb []) (ty:TypeId):∃w',(Instr.next (.pointer (some ⟨r,0,none⟩)) false ty).run Tryz.prog w=.ok (.tuple #[.bool false]) w'∧Mod [] w w':=by
 obtain⟨es,c,seen,k1,k2,k3,k4,k5⟩:=h;have hnil:es.toList.filter (fun e=> !seen.contains e.born)=[]:=List.eq_nil_of_length_eq_zero k5.length;have hl:es.filter (fun e=> !seen.contains e.born)=#[]:=by rw[←Array.toList_eq_nil_iff,Array.toList_filter];exact hnil
 have hchk:(!seen.isEmpty&& !es.isEmpty&&es.all fun e=>decide (e.born≥c))=false:=by
  by_cases he:es.isEmpty=true
  ·simp[he]
  ·have:∃e,e∈es.toList:=by
    cases hes:es.toList with
    |nil=>exact absurd (by simpa[Array.isEmpty]using hes) he
    |cons a l=>exact⟨a,by simp⟩
   obtain⟨e,hm⟩:=this;have hlt:=k3 e hm;have:(es.all fun e=>decide (e.born≥c))=false:=by
    rw[Array.all_eq_false];obtain⟨i,hi,rfl⟩:=List.mem_iff_getElem.1 hm;exact⟨i,by simpa using hi,by simp at hlt⊢;omega⟩
   rw[this];simp
 refine⟨w,?_,Mod.refl _ _⟩;unfold Instr.next;simp only[Sem.run_bind,run_getObj_iter k4,Result.andThen_ok,Stg.run_getObj_map k1,hchk,hl];simp[Question.forced]
theorem find_born:∀ {l:List MapEntry} {e:MapEntry},(l.map (·.born)).Pairwise (· < ·)→e∈l→l.find? (fun a=>a.born==e.born)=some e
 | [],_,_,h=>by cases h
 |a::l,e,hp,h=>by
  rw[List.map_cons,List.pairwise_cons]at hp;rcases List.mem_cons.1 h with rfl|h
  ·simp
  ·have:=hp.1 e.born (List.mem_map_of_mem h);rw[List.find?_cons_of_neg (by simp;omega)];exact find_born hp.2 h
theorem choose_next {P:Program} (w:World) (n:Nat) (hn:1≤n):∃i w1,(choose (.mapNext n)).run P w=.ok i w1∧i<n∧Mod [] w w1∧w1.heap=w.heap:=by
 rw[run_choose_drew];split
 ·exact⟨0,w,rfl,hn,Mod.refl _ _,rfl⟩
 ·exact⟨_,w.drew,rfl,Nat.mod_lt _ hn,(Mod.refl _ _).drew,rfl⟩
theorem not_contains_push (seen:Array Nat) (x y:Nat):(!(seen.push x).contains y)=(!seen.contains y&&y != x):=by
 by_cases h:y=x
 ·subst h;simp
 ·have h2:¬x=y:=fun e=>h e.symm
  simp[h]
theorem next_some {w:World} {r mb:Nat} {rest:List Bor} (h:IterAt w r mb rest) (hne:rest≠ []) (hrm:r≠mb) (ty:TypeId):∃(i:Nat) (b:Bor) (w':World),rest[i]? =some b∧(Instr.next (.pointer (some ⟨r,0,none⟩)) false ty).run Tryz.prog w=.ok (.tuple #[.bool true,kv b.1,bv b]) w'∧IterAt w' r mb (rest.eraseIdx i)∧Mod [r] w w'∧w'.heap.size=w.heap.size∧(Instr.entry (.pointer (some ⟨r,0,none⟩))).run Tryz.prog w'=.ok (.tuple #[kv b.1,bv b]) w':=by
 obtain⟨es,c,seen,k1,k2,k3,k4,k5⟩:=h;obtain⟨A,hA⟩:∃A,es.filter (fun e=> !seen.contains e.born)=A:=⟨_,rfl⟩;have hAl:es.toList.filter (fun e=> !seen.contains e.born)=A.toList:=by rw[←hA,Array.toList_filter]
 rw[hAl]at k5;have hsz:A.size=rest.length:=by have:=k5.length;simpa using this
 have hpos:1≤A.size:=by rw[hsz];exact Nat.pos_of_ne_zero fun e=>hne (List.eq_nil_of_length_eq_zero e)
 have hlt:∀e∈A.toList,e.born<c:=fun e he=>by rw[←hAl]at he;exact k3 e (List.mem_filter.1 he).1
 have hold:A.filter (fun e=>decide (e.born<c))=A:=by
  apply Array.toList_inj.1;rw[Array.toList_filter,List.filter_eq_self];intro e he;simpa using hlt e he
 have hnew:A.filter (fun e=>decide (e.born≥c))=#[]:=by
  apply Array.toList_inj.1;rw[Array.toList_filter];apply List.filter_eq_nil_iff.2;intro e he;have:=hlt e he;simp;omega
 have hchk:(!seen.isEmpty&& !es.isEmpty&&es.all fun e=>decide (e.born≥c))=false:=by
  have hm:A[0]∈es.toList:=by
   have:A[0]∈A.toList:=by simp
   rw[←hAl]at this;exact(List.mem_filter.1 this).1
  have hl:=k3 _ hm;have:(es.all fun e=>decide (e.born≥c))=false:=by
   rw[Array.all_eq_false];obtain⟨i,hi,he⟩:=List.mem_iff_getElem.1 hm;refine⟨i,by simpa using hi,?_⟩;have he:es[i]'(by simpa using hi)=A[0]:=by simpa using he
   rw[he];simp;omega
  rw[this];simp
 obtain⟨i,w1,hch,hi,hm1,hh1⟩:=choose_next (P:=Tryz.prog) w A.size hpos;have hiA:A[i]? =some A[i]:=by simp[hi]
 obtain⟨b,hb,hkey,hval⟩:=k5.get (i:=i) (e:=A[i]) (by rw[Array.getElem?_toList];exact hiA);have hr1:w1.heap[r]? =some (.mapIter (some mb) c seen c):=by rw[hh1];exact k4
 have hs1:w1.heap.size=w.heap.size:=by rw[hh1]
 have hrl:=lt_of k4;refine⟨i,b,{w1 with heap:=w1.heap.setIfInBounds r (.mapIter (some mb) c (seen.push A[i].born) c)},hb,?_,?_,?_,by simp[hs1],?_⟩
 ·have hemp:A.isEmpty=false:=by
   cases h:A.isEmpty with
   |false=>rfl
   |true=>have:=Array.isEmpty_iff_size_eq_zero.1 h;omega
  have hcand:(A.map some)[i]? =some (some A[i]):=by rw[Array.getElem?_map,hiA];rfl
  unfold Instr.next;simp only[Sem.run_bind,run_getObj_iter k4,Result.andThen_ok,Stg.run_getObj_map k1,hchk,hA,hold,hnew];simp only[Bool.false_eq_true,if_false,hemp,Array.append_empty,Array.empty_append,Array.size_map];simp only[hch,Result.andThen_ok,hcand,Sem.run_bind,run_setObj_iter hr1,Sem.run_pure,hkey,hval]
 ·refine⟨es,c,seen.push A[i].born,?_,k2,k3,?_,?_⟩
  ·show(w1.heap.setIfInBounds r _)[mb]? =_;rw[Array.getElem?_setIfInBounds_ne hrm,hh1];exact k1
  ·show(w1.heap.setIfInBounds r _)[r]? =_;rw[Array.getElem?_setIfInBounds_self_of_lt (by rw[hs1];exact hrl)]
  ·have e:es.toList.filter (fun e=> !(seen.push A[i].born).contains e.born)=(es.toList.filter (fun e=> !seen.contains e.born)).filter (fun e=>e.born != A[i].born):=by
    rw[List.filter_filter];congr 1;funext e;rw[not_contains_push,Bool.and_comm]
   have hpA:(A.toList.map (·.born)).Pairwise (· < ·):=by
    rw[←hAl];exact k2.sublist ((List.filter_sublist).map _)
   have hfb:=filter_born hpA (i:=i) (by simpa using hi);rw[e,hAl];have e2:A.toList[i]'(by simpa using hi)=A[i]:=by simp
   rw[e2]at hfb;rw[hfb];exact k5.erase i
 ·refine⟨hm1.os,hm1.tape,hm1.output,by simp[hs1],fun k hk hkr=> ?_⟩;show(w1.heap.setIfInBounds r _)[k]? =_;rw[Array.getElem?_setIfInBounds_ne (fun e=>hkr (by simp[e])),hh1]
 ·have e1:(w1.heap.setIfInBounds r (.mapIter (some mb) c (seen.push A[i].born) c))[mb]? =some (.map es c):=by
   rw[Array.getElem?_setIfInBounds_ne hrm,hh1];exact k1
  have e2:(w1.heap.setIfInBounds r (.mapIter (some mb) c (seen.push A[i].born) c))[r]? =some (.mapIter (some mb) c (seen.push A[i].born) c):=by
   rw[Array.getElem?_setIfInBounds_self_of_lt (by rw[hs1];exact hrl)]
  have hmem:A[i]∈es.toList:=by
   have:A[i]∈A.toList:=by simp
   rw[←hAl]at this;exact(List.mem_filter.1 this).1
  have hfind:es.find? (fun e=>e.born==A[i].born)=some A[i]:=by
   rw[←Array.find?_toList];exact find_born k2 hmem
  unfold Instr.entry;simp[run_getObj_iter (w:={w1 with heap:=w1.heap.setIfInBounds r (.mapIter (some mb) c (seen.push A[i].born) c)}) e2,Stg.run_getObj_map (w:={w1 with heap:=w1.heap.setIfInBounds r (.mapIter (some mb) c (seen.push A[i].born) c)}) e1,hfind,hkey,hval]
end Go.Proofs.YtgfdeiijblakfaaGreat.Bw
namespace Go
namespace Stg
open Go.RowKit
variable {P:Program} {F:Fence} {n:Nat}
def SeqSays {α:Type} (F:Fence) (n:Nat) (P:Program) (g:Nat) (lb:Array Value) (enc:α→Array Value) (El:List α→α→World→Prop) (Kp:World→World→Prop) (S Sp:List α→Prop) (N:Nat) (w:World):Prop:=
 ∀(l:Nat) (J Jx:List α→World→Prop) (W:World),Below w.heap.size w W→AbidesFrom W.heap.size J→AbidesFrom W.heap.size Jx→J [] W→
  (∀pre x V,J pre V→El pre x V→pre.length<N→YieldAt F (n-1) P l (enc x) V fun e V'=>
   (e=.returned (.bool true)∧J (pre++[x]) V'∧Kp V V')∨(e=.returned (.bool false)∧Jx (pre++[x]) V'))→
  CallsIn F n P g (#[.func (.yield l) #[] #[]]++lb) W fun e V=>(∃v,e=.returned v)∧((∃xs,S xs∧J xs V)∨(∃pre,Sp pre∧Jx pre V))
def Rec (b:Nat) (r:Loop) (W:World):Prop:=W.heap[b+1]? =some (.loop r)∧W.heap[b]? =some (.deferred (some []))
theorem Rec.keep {b:Nat} {r:Loop} {V W:World} (h:Rec b r V) (hk:KeepsFrom b V W):Rec b r W:=⟨hk.same _ _ (Nat.le_succ b) h.1 rfl,hk.same _ _ (Nat.le_refl b) h.2 rfl⟩
theorem Rec.put {b:Nat} {r:Loop} {V:World} (h:Rec b r V) (r':Loop):Rec b r' (V.putObj (b+1) (.loop r')):=
 ⟨World.putObj_heap_same (lt_of h.1),(World.putObj_heap_other (by omega)).trans h.2⟩
theorem Rec.grown {b:Nat} {r:Loop} {V W:World} {row:Option Nat} (h:Rec b r V) (hg:V.grownBy W row) (hr:∀x,row=some x→∃o:Obj,V.heap[x]? =some o∧o.isWalk=true):Rec b r W:=by
 have no:∀x,row=some x→∃o:Obj,V.heap[x]? =some o∧o.isWalk=true:=hr;refine⟨(hg.block _ (lt_of h.1) fun e=> ?_).trans h.1,(hg.block _ (lt_of h.2) fun e=> ?_).trans h.2⟩
 ·obtain⟨o,ho,hw⟩:=no _ e.symm;rw[h.1]at ho;cases ho;simp[Obj.isWalk]at hw
 ·obtain⟨o,ho,hw⟩:=no _ e.symm;rw[h.2]at ho;cases ho;simp[Obj.isWalk]at hw
theorem walk_from {B C:Nat} (hBC:B≤C) {V:World} {row:Option Nat} (h:∀r,row=some r→C≤r∧∃o:Obj,V.heap[r]? =some o∧o.isWalk=true):∀r,row=some r→B≤r∧∃o:Obj,V.heap[r]? =some o∧o.isCells=false:=
 fun r e=>let ⟨h1,o,h2,h3⟩:=h r e;⟨Nat.le_trans hBC h1,o,h2,Obj.not_cells_of_walk h3⟩
theorem wpIn_rangeFunc_says {α:Type} {g:Operand} {ps:Array Tmp} {assign body:Code} {Q:Exit→Act→World→Prop} {a:Act} {w:World}
  (hro:F.round=none) (hn:1≤n) {gf:Nat} {lb:Array Value} (hg:a.eval g=.func (.func gf) #[] lb) (hF:F.fn gf) (he:∀args w,(callFunc gf args).run P w=.ok (.enter gf args) w)
  {enc:α→Array Value} {El:List α→α→World→Prop} {Kp:World→World→Prop} {S Sp:List α→Prop} {N:Nat} {w0:World} (hseq:SeqSays F (n-1) P gf lb enc El Kp S Sp N w0) (hb0:Below w0.heap.size w0 w) (hps:∀x,(enc x).size=ps.size)
  (hKt:∀ {A B C:World},Kp A B→Kp B C→Kp A C) (hKb:∀(W:World) (l:Nat) (o o':Obj),w.heap.size≤l→W.heap[l]? =some o→o.isCells=false→o.isWalk=false→Kp W (W.putObj l o'))
  (I:List α→World→Prop) (Ix:Code→List α→World→Prop) (hI:OwnFrom w.heap.size I) (hIx:∀c,OwnFrom w.heap.size (Ix c)) (h0:I [] w) (Ax:List α→α→Act→World→Prop) (hAx:∀pre x a',OwnFrom w.heap.size (fun(_:Unit) W=>Ax pre x a' W))
  (hassign:∀(l:Nat) (pre:List α) (x:α) (W:World) (K:Act→World→Prop),I pre W→El pre x W→(∀a' W',KeepsFrom w.heap.size W W'→Kp W W'→I pre W'→Ax pre x a' W'→K a' W')→
   assign.wpIn (F.inRound l) (n-1-1) P (Exit.then K (fun _ _ _=>False)) {tmps:=(ps.zip (enc x)).foldl (fun t (p,v)=>t.setIfInBounds p v) a.tmps,defers:=[]} W)
  (hbody:∀(l:Nat) (pre:List α) (x:α) (a':Act) (W:World),I pre W→Ax pre x a' W→pre.length<N→body.wpIn (F.inRound l) (n-1-1) P (ownPostG w.heap.size Kp I Ix (pre++[x]) W) a' W)
  (hdone:∀(D:Nat) (xs:List α) (W:World),w.heap.size≤D→S xs→I xs W→W.heap[D]? =some (.deferred (some []))→Q .normal {a with defers:={target:=.collected D,args:=#[]}::a.defers} W)
  (hstop:∀(D:Nat) (c:Code) (pre:List α) (W:World),w.heap.size≤D→Sp pre→Ix c pre W→W.heap[D]? =some (.deferred (some []))→c.wpIn F n P Q {a with defers:={target:=.collected D,args:=#[]}::a.defers} W):
  (Code.rangeFunc g ps assign body).wpIn F n P Q a w:=by
 refine wpIn_rangeFunc fun fn hfn=> ?_
 obtain⟨R,hR⟩:∃R:LoopState→Option Code→Loop,R=fun s c=>{state:=s,pending:=c,fn,tmps:=a.tmps,params:=ps,assign,body,defers:=w.heap.size}:=⟨_,rfl⟩
 have st:∀s c,(R s c).state=s:=fun s c=>by rw[hR]
 have busy:∀s c s',{R s c with state:=s'}=R s' c:=fun s c s'=>by rw[hR]
 have ended:∀s c s' c',{R s c with state:=s',pending:=c'}=R s' c':=fun s c s' c'=>by rw[hR]
 have e0:(Instr.enterLoop fn a.tmps ps assign body F.round).run P w=.ok (w.heap.size+1,[{target:=.collected w.heap.size,args:=#[]}]) ((w.alloc (.deferred (some []))).alloc (.loop (R .ready none))):=by
  rw[hro,hR];exact run_enterLoop_outer _ _ _ _ _
 have r0:Rec w.heap.size (R .ready none) ((w.alloc (.deferred (some []))).alloc (.loop (R .ready none))):=by
  have q:=at_alloc (w.alloc (.deferred (some []))) (.loop (R .ready none));rw[World.size_alloc]at q;exact⟨q,at_alloc_old (at_alloc w _)⟩
 have s0:w.heap.size≤((w.alloc (.deferred (some []))).alloc (.loop (R .ready none))).heap.size:=by simp only[World.size_alloc];omega
 have i0:I [] ((w.alloc (.deferred (some []))).alloc (.loop (R .ready none))):=hI.alloc _ (hI.alloc _ h0);have b0:Below w0.heap.size w0 ((w.alloc (.deferred (some []))).alloc (.loop (R .ready none))):=hb0.trans ((((Below.refl _ w).alloc (Nat.le_refl _) _).alloc (by simp) _).mono hb0.size);generalize(w.alloc (.deferred (some []))).alloc (.loop (R .ready none))=W1 at*;refine⟨_,_,W1,{target:=.fn (.func gf) lb,args:=#[.func (.yield (w.heap.size+1)) #[] #[]]},W1,gf,#[.func (.yield (w.heap.size+1)) #[] #[]]++lb,W1,e0,by simp only[resolve,hg];simp[go_sem],fun f' hf'=>by simp[Target.leads]at hf';subst hf';exact hF,by simp[invoke,go_sem,he],fun _=>hn,?_⟩;refine(hseq (w.heap.size+1) (fun pre W=>I pre W∧Rec w.heap.size (R .ready none) W) (fun pre W=>∃c,Ix c pre W∧Rec w.heap.size (R .done (some c)) W) W1 b0
  (fun s A B row h1 h2 h3=>⟨hI s A B row h1.1 h2 (walk_from s0 h3),h1.2.grown h2 fun x e=>(h3 x e).2⟩)
  (fun s A B row ⟨c,h1,h4⟩ h2 h3=>⟨c,hIx c s A B row h1 h2 (walk_from s0 h3),h4.grown h2 fun x e=>(h3 x e).2⟩) ⟨i0,r0⟩ ?_).mono ?_
 ·rintro pre x W ⟨hi,hrec⟩ hel hlen;have hy:=run_yield (P:=P) (args:=enc x) hrec.1 (by rw[hR];exact hps x);rw[hR]at hy;refine⟨fn,_,assign,body,hy,roundIn_of_wpIn hfn (hassign _ pre x W _ hi hel fun a' Wa hk1 hp1 hi1 hax=> ?_)⟩;have hra:=hrec.keep hk1;have hrb:=hra.put (R .busy none);have hbeg:=run_beginRound (P:=P) hra.1 (st _ _);rw[busy]at hbeg;have hpb:=hKb Wa _ _ (.loop (R .busy none)) (Nat.le_succ w.heap.size) hra.1 rfl rfl;have hib:=hI.putObj (.loop (R .busy none)) hi1 (Nat.le_succ w.heap.size) hra.1 rfl;have hab:=(hAx pre x a').putObj (s:=()) (.loop (R .busy none)) hax (Nat.le_succ w.heap.size) hra.1 rfl;refine⟨_,hbeg,wpIn_mono (hbody _ pre x a' _ hib hab hlen) ?_⟩;have fin:∀(c:Option Code) (W3:World),KeepsFrom w.heap.size (Wa.putObj (w.heap.size+1) (.loop (R .busy none))) W3→
    Rec w.heap.size (R .busy none) W3∧(Instr.endRound (w.heap.size+1) c).run P W3=.ok (.bool c.isNone) (W3.putObj (w.heap.size+1) (.loop (R (if c.isNone then .ready else .done) c))):=fun c W3 hk3=>by
   have h3:=hrb.keep hk3;have h4:=run_endRound (P:=P) c h3.1;rw[ended]at h4;exact⟨h3,h4⟩
  have out:∀(c:Code) (W3:World),KeepsFrom w.heap.size (Wa.putObj (w.heap.size+1) (.loop (R .busy none))) W3→Ix c (pre++[x]) W3→∃v w',(Instr.endRound (w.heap.size+1) (some c)).run P W3=.ok v w'∧
    ((Ending.returned v=.returned (.bool true)∧(I (pre++[x]) w'∧Rec w.heap.size (R .ready none) w')∧Kp W w')∨(Ending.returned v=.returned (.bool false)∧∃c',Ix c' (pre++[x]) w'∧Rec w.heap.size (R .done (some c')) w')):=fun c W3 hk3 hx3=>by
   obtain⟨h3,h4⟩:=fin (some c) W3 hk3;exact⟨_,_,h4,.inr ⟨rfl,c,(hIx c).putObj _ hx3 (Nat.le_succ _) h3.1 rfl,h3.put _⟩⟩
  rintro e a3 W3 hp;cases e with
  |normal=>
   obtain⟨hk3,hp3,hi3⟩:=hp;obtain⟨h3,h4⟩:=fin none W3 hk3;exact⟨_,_,h4,.inl ⟨rfl,⟨hI.putObj _ hi3 (Nat.le_succ _) h3.1 rfl,h3.put _⟩,hKt hp1 (hKt (hKt hpb hp3) (hKb _ _ _ _ (Nat.le_succ _) h3.1 rfl rfl))⟩⟩
  |ret=>exact out .ret W3 hp.1 hp.2
  |exit id=>exact out (.exit id) W3 hp.1 hp.2
  |goto t=>exact out (.goto t) W3 hp.1 hp.2
  |panic _=>exact hp.elim
  |outgrown=>exact hp.elim
 ·rintro e W2 ⟨⟨v,rfl⟩,h⟩;have off:∀ {s c},s≠ .busy→Rec w.heap.size (R s c) W2→(Instr.endLoop (w.heap.size+1)).run P W2=.ok c (W2.putObj (w.heap.size+1) (.loop (R .exhausted c))):=fun {s c} hs hr=>by
   have:=run_endLoop (P:=P) hr.1 (by rw[st];exact hs);rw[busy]at this;rw[this,hR]
  rcases h with⟨xs,hS,hi,hr⟩|⟨pre,hS,c,hi,hr⟩
  ·exact⟨none,_,off (by simp) hr,hdone _ xs _ (Nat.le_refl _) hS (hI.putObj _ hi (Nat.le_succ _) hr.1 rfl) (hr.put _).2⟩
  ·exact⟨some c,_,off (by simp) hr,hstop _ c pre _ (Nat.le_refl _) hS ((hIx c).putObj _ hi (Nat.le_succ _) hr.1 rfl) (hr.put _).2⟩
theorem wpIn_rangeFunc_at {α:Type} {g:Operand} {ps:Array Tmp} {assign body:Code} {Q:Exit→Act→World→Prop} {a:Act} {w:World}
  (hro:F.round=none) (hn:1≤n) {gf:Nat} {lb:Array Value} (hg:a.eval g=.func (.func gf) #[] lb) (hF:F.fn gf) (he:∀args w,(callFunc gf args).run P w=.ok (.enter gf args) w)
  {enc:α→Array Value} {El:List α→α→World→Prop} {Kp:World→World→Prop} {S Sp:List α→Prop} {N:Nat} {w0:World} (hseq:SeqSays F (n-1) P gf lb enc El Kp S Sp N w0) (hb0:Below w0.heap.size w0 w) (hps:∀x,(enc x).size=ps.size)
  (hKt:∀ {A B C:World},Kp A B→Kp B C→Kp A C) (hKb:∀(W:World) (l:Nat) (o o':Obj),w.heap.size≤l→W.heap[l]? =some o→o.isCells=false→o.isWalk=false→Kp W (W.putObj l o'))
  (I:List α→World→Prop) (Ix:Code→List α→World→Prop) (hI:OwnFrom w.heap.size I) (hIx:∀c,OwnFrom w.heap.size (Ix c)) (h0:I [] w)
  (fr:Array Value→α→Nat→Array Value) (Px:List α→α→Nat→World→Prop) (hPx:∀pre x r,OwnFrom w.heap.size (fun(_:Unit) W=>Px pre x r W))
  (hassign:∀(l:Nat) (pre:List α) (x:α) (W:World) (K:Act→World→Prop),I pre W→El pre x W→(∀r W',KeepsFrom w.heap.size W W'→Kp W W'→I pre W'→Px pre x r W'→K {tmps:=fr a.tmps x r,defers:=[]} W')→
   assign.wpIn (F.inRound l) (n-1-1) P (Exit.then K (fun _ _ _=>False)) {tmps:=(ps.zip (enc x)).foldl (fun t (p,v)=>t.setIfInBounds p v) a.tmps,defers:=[]} W)
  (hbody:∀(l:Nat) (pre:List α) (x:α) (r:Nat) (W:World),I pre W→Px pre x r W→pre.length<N→body.wpIn (F.inRound l) (n-1-1) P (ownPostG w.heap.size Kp I Ix (pre++[x]) W) {tmps:=fr a.tmps x r,defers:=[]} W)
  (hdone:∀(D:Nat) (xs:List α) (W:World),w.heap.size≤D→S xs→I xs W→W.heap[D]? =some (.deferred (some []))→Q .normal {a with defers:={target:=.collected D,args:=#[]}::a.defers} W)
  (hstop:∀(D:Nat) (c:Code) (pre:List α) (W:World),w.heap.size≤D→Sp pre→Ix c pre W→W.heap[D]? =some (.deferred (some []))→c.wpIn F n P Q {a with defers:={target:=.collected D,args:=#[]}::a.defers} W):
  (Code.rangeFunc g ps assign body).wpIn F n P Q a w:=
 wpIn_rangeFunc_says hro hn hg hF he hseq hb0 hps hKt hKb I Ix hI hIx h0 (fun pre x a' W=>∃r,a'={tmps:=fr a.tmps x r,defers:=[]}∧Px pre x r W)
  (fun pre x _ s A B row ⟨r,h1,h2⟩ hg hr=>⟨r,h1,hPx pre x r s A B row h2 hg hr⟩)
  (fun l pre x W K h1 h2 hK=>hassign l pre x W K h1 h2 fun r _ k1 k2 k3 k4=>hK _ _ k1 k2 k3 ⟨r,rfl,k4⟩)
  (fun l pre x _ W h1 ⟨r,h2,h3⟩ h4=>h2▸hbody l pre x r W h1 h3 h4) hdone hstop
end Stg
end Go
