/- Joined contracts. No conditions. -/
import Derived.Sort.MapsRangeIn
import Derived.Shelf.SlSortCmp.NoneTotal
import Derived.Test.YtdehaommhbjakaaGreatC13
set_option maxHeartbeats 4000000
set_option maxRecDepth 100000
namespace Go.Proofs.YtdehaommhbjakaaGreat.Bw
open RowKit Stg
theorem uV:∀ {l:List MapEntry} {i:Nat},(l.map (·.born)).Pairwise (· < ·)→(hi:i<l.length)→l.filter (fun e=>e.born != l[i].born)=l.eraseIdx i
 | [],i,_,hi=>by simp at hi
 |e::l,0,hp,_=>by
  rw[List.map_cons,List.pairwise_cons]at hp;simp only[List.getElem_cons_zero,List.eraseIdx_cons_zero,List.filter_cons];rw[if_neg (by simp),List.filter_eq_self];intro a ha;have:=hp.1 a.born (List.mem_map_of_mem ha);simp;omega
 |e::l,i+1,hp,hi=>by
  rw[List.map_cons,List.pairwise_cons]at hp;have hi':i<l.length:=by simpa using hi
  simp only[List.getElem_cons_succ,List.eraseIdx_cons_succ,List.filter_cons];have:=hp.1 l[i].born (List.mem_map_of_mem (List.getElem_mem hi'));rw[if_pos (by simp;omega),uV hp.2 hi']
theorem fy.erase {es:List MapEntry} {bs:List ak} (h:fy es bs) (i:Nat):fy (es.eraseIdx i) (bs.eraseIdx i):=
 ⟨by rw[kG,h.1, ←kG],by rw[kG,h.2, ←kG]⟩
def lH (w:World) (r mb:Nat) (rest:List ak):Prop:=
 ∃es c seen,w.heap[mb]? =some (.map es c)∧(es.toList.map (·.born)).Pairwise (· < ·)∧(∀e∈es.toList,e.born<c)∧w.heap[r]? =some (.mapIter (some mb) c seen c)∧fy (es.toList.filter fun e=> !seen.contains e.born) rest
theorem lH.same {w w':World} {r mb:Nat} {rest:List ak} (h:lH w r mb rest) (h1:w'.heap[mb]? =w.heap[mb]?) (h2:w'.heap[r]? =w.heap[r]?):lH w' r mb rest:=by
 obtain⟨es,c,seen,k1,k2,k3,k4,k5⟩:=h;exact⟨es,c,seen,h1.trans k1,k2,k3,h2.trans k4,k5⟩
theorem F7 {w:World} {mb:Nat} {bs:List ak} (h:dg w mb bs):∃c,(Instr.range 157 (.map (some mb))).run Tryz.prog w=.ok (.pointer (some ⟨w.heap.size,0,none⟩)) (w.alloc (.mapIter (some mb) c #[] c))∧lH (w.alloc (.mapIter (some mb) c #[] c)) w.heap.size mb bs:=by
 obtain⟨es,c,hb,hk,hp,hc⟩:=h;refine⟨c,?_,es,c,#[],aI hb,hp,hc,an _ _,by rw[List.filter_eq_self.2 (fun a _=>by simp)];exact hk⟩;unfold Instr.range;simp[run_underlying Tryz.underlying157,Stg.run_getObj_map hb]
theorem qX {P:Program} {w:World} {r m since last:Nat} {seen:Array Nat} (hr:w.heap[r]? =some (.mapIter (some m) since seen last)):(getObj r).run P w=.ok (.mapIter (some m) since seen last) w:=by
 simp[getObj,Sem.run,hr]
theorem zL {P:Program} {w:World} {r m since last:Nat} {seen:Array Nat} (hr:w.heap[r]? =some (.mapIter (some m) since seen last)) (o:Obj):(setObj r o).run P w=.ok () {w with heap:=w.heap.setIfInBounds r o}:=by
 simp[setObj,Sem.run,hr]
theorem Cz {w:World} {r mb:Nat} (h:lH w r mb []) (ty:TypeId):∃w',(Instr.next (.pointer (some ⟨r,0,none⟩)) false ty).run Tryz.prog w=.ok (.tuple #[.bool false]) w'∧Mod [] w w':=by
 obtain⟨es,c,seen,k1,k2,k3,k4,k5⟩:=h;have hnil:es.toList.filter (fun e=> !seen.contains e.born)=[]:=List.eq_nil_of_length_eq_zero k5.length;have hl:es.filter (fun e=> !seen.contains e.born)=#[]:=by rw[←Array.toList_eq_nil_iff,Array.toList_filter];exact hnil
 have hchk:(!seen.isEmpty&& !es.isEmpty&&es.all fun e=>decide (e.born≥c))=false:=by
  by_cases he:es.isEmpty=true
  ·simp[he]
  ·have:∃e,e∈es.toList:=by
    cases hes:es.toList with
    |nil=>exact absurd (by simpa[Array.isEmpty]using hes) he
    |cons a l=>exact⟨a,by simp⟩
   obtain⟨e,hm⟩:=this;have hlt:=k3 e hm;have:(es.all fun e=>decide (e.born≥c))=false:=by
    rw[Array.all_eq_false];obtain⟨i,hi,rfl⟩:=List.mem_iff_getElem.1 hm;exact⟨i,by simpa using hi,by simp at hlt⊢;omega⟩
   rw[this];simp
 refine⟨w,?_,Mod.refl _ _⟩;unfold Instr.next;simp only[Sem.run_bind,qX k4,Result.andThen_ok,Stg.run_getObj_map k1,hchk,hl];simp[Question.forced]
theorem find_born:∀ {l:List MapEntry} {e:MapEntry},(l.map (·.born)).Pairwise (· < ·)→e∈l→l.find? (fun a=>a.born==e.born)=some e
 | [],_,_,h=>by cases h
 |a::l,e,hp,h=>by
  rw[List.map_cons,List.pairwise_cons]at hp;rcases List.mem_cons.1 h with rfl|h
  ·simp
  ·have:=hp.1 e.born (List.mem_map_of_mem h);rw[List.find?_cons_of_neg (by simp;omega)];exact find_born hp.2 h
theorem Al {P:Program} (w:World) (n:Nat) (hn:1≤n):∃i w1,(choose (.mapNext n)).run P w=.ok i w1∧i<n∧Mod [] w w1∧w1.heap=w.heap:=by
 rw[run_choose_drew];split
 ·exact⟨0,w,rfl,hn,Mod.refl _ _,rfl⟩
 ·exact⟨_,w.drew,rfl,Nat.mod_lt _ hn,(Mod.refl _ _).drew,rfl⟩
theorem zH (seen:Array Nat) (x y:Nat):(!(seen.push x).contains y)=(!seen.contains y&&y != x):=by
 by_cases h:y=x
 ·subst h;simp
 ·have h2:¬x=y:=fun e=>h e.symm
  simp[h]
theorem CS {w:World} {r mb:Nat} {rest:List ak} (h:lH w r mb rest) (hne:rest≠ []) (hrm:r≠mb) (ty:TypeId):∃(i:Nat) (b:ak) (w':World),rest[i]? =some b∧(Instr.next (.pointer (some ⟨r,0,none⟩)) false ty).run Tryz.prog w=.ok (.tuple #[.bool true,kv b.1,bv b]) w'∧lH w' r mb (rest.eraseIdx i)∧Mod [r] w w'∧w'.heap.size=w.heap.size∧(Instr.entry (.pointer (some ⟨r,0,none⟩))).run Tryz.prog w'=.ok (.tuple #[kv b.1,bv b]) w':=by
 obtain⟨es,c,seen,k1,k2,k3,k4,k5⟩:=h;obtain⟨A,hA⟩:∃A,es.filter (fun e=> !seen.contains e.born)=A:=⟨_,rfl⟩;have hAl:es.toList.filter (fun e=> !seen.contains e.born)=A.toList:=by rw[←hA,Array.toList_filter]
 rw[hAl]at k5;have hsz:A.size=rest.length:=by have:=k5.length;simpa using this
 have hpos:1≤A.size:=by rw[hsz];exact Nat.pos_of_ne_zero fun e=>hne (List.eq_nil_of_length_eq_zero e)
 have hlt:∀e∈A.toList,e.born<c:=fun e he=>by rw[←hAl]at he;exact k3 e (List.mem_filter.1 he).1
 have hold:A.filter (fun e=>decide (e.born<c))=A:=by
  apply Array.toList_inj.1;rw[Array.toList_filter,List.filter_eq_self];intro e he;simpa using hlt e he
 have hnew:A.filter (fun e=>decide (e.born≥c))=#[]:=by
  apply Array.toList_inj.1;rw[Array.toList_filter];apply List.filter_eq_nil_iff.2;intro e he;have:=hlt e he;simp;omega
 have hchk:(!seen.isEmpty&& !es.isEmpty&&es.all fun e=>decide (e.born≥c))=false:=by
  have hm:A[0]∈es.toList:=by
   have:A[0]∈A.toList:=by simp
   rw[←hAl]at this;exact(List.mem_filter.1 this).1
  have hl:=k3 _ hm;have:(es.all fun e=>decide (e.born≥c))=false:=by
   rw[Array.all_eq_false];obtain⟨i,hi,he⟩:=List.mem_iff_getElem.1 hm;refine⟨i,by simpa using hi,?_⟩;have he:es[i]'(by simpa using hi)=A[0]:=by simpa using he
   rw[he];simp;omega
  rw[this];simp
 obtain⟨i,w1,hch,hi,hm1,hh1⟩:=Al (P:=Tryz.prog) w A.size hpos;have hiA:A[i]? =some A[i]:=by simp[hi]
 obtain⟨b,hb,hkey,hval⟩:=k5.get (i:=i) (e:=A[i]) (by rw[Array.getElem?_toList];exact hiA);have hr1:w1.heap[r]? =some (.mapIter (some mb) c seen c):=by rw[hh1];exact k4
 have hs1:w1.heap.size=w.heap.size:=by rw[hh1]
 have hrl:=aL k4;refine⟨i,b,{w1 with heap:=w1.heap.setIfInBounds r (.mapIter (some mb) c (seen.push A[i].born) c)},hb,?_,?_,?_,by simp[hs1],?_⟩
 ·have hemp:A.isEmpty=false:=by
   cases h:A.isEmpty with
   |false=>rfl
   |true=>have:=Array.isEmpty_iff_size_eq_zero.1 h;omega
  have hcand:(A.map some)[i]? =some (some A[i]):=by rw[Array.getElem?_map,hiA];rfl
  unfold Instr.next;simp only[Sem.run_bind,qX k4,Result.andThen_ok,Stg.run_getObj_map k1,hchk,hA,hold,hnew];simp only[Bool.false_eq_true,if_false,hemp,Array.append_empty,Array.empty_append,Array.size_map];simp only[hch,Result.andThen_ok,hcand,Sem.run_bind,zL hr1,Sem.run_pure,hkey,hval]
 ·refine⟨es,c,seen.push A[i].born,?_,k2,k3,?_,?_⟩
  ·show(w1.heap.setIfInBounds r _)[mb]? =_;rw[Array.getElem?_setIfInBounds_ne hrm,hh1];exact k1
  ·show(w1.heap.setIfInBounds r _)[r]? =_;rw[Array.getElem?_setIfInBounds_self_of_lt (by rw[hs1];exact hrl)]
  ·have e:es.toList.filter (fun e=> !(seen.push A[i].born).contains e.born)=(es.toList.filter (fun e=> !seen.contains e.born)).filter (fun e=>e.born != A[i].born):=by
    rw[List.filter_filter];congr 1;funext e;rw[zH,Bool.and_comm]
   have aB:(A.toList.map (·.born)).Pairwise (· < ·):=by
    rw[←hAl];exact k2.sublist ((List.filter_sublist).map _)
   have hfb:=uV aB (i:=i) (by simpa using hi);rw[e,hAl];have e2:A.toList[i]'(by simpa using hi)=A[i]:=by simp
   rw[e2]at hfb;rw[hfb];exact k5.erase i
 ·refine⟨hm1.os,hm1.tape,hm1.output,by simp[hs1],fun k hk hkr=> ?_⟩;show(w1.heap.setIfInBounds r _)[k]? =_;rw[Array.getElem?_setIfInBounds_ne (fun e=>hkr (by simp[e])),hh1]
 ·have e1:(w1.heap.setIfInBounds r (.mapIter (some mb) c (seen.push A[i].born) c))[mb]? =some (.map es c):=by
   rw[Array.getElem?_setIfInBounds_ne hrm,hh1];exact k1
  have e2:(w1.heap.setIfInBounds r (.mapIter (some mb) c (seen.push A[i].born) c))[r]? =some (.mapIter (some mb) c (seen.push A[i].born) c):=by
   rw[Array.getElem?_setIfInBounds_self_of_lt (by rw[hs1];exact hrl)]
  have hmem:A[i]∈es.toList:=by
   have:A[i]∈A.toList:=by simp
   rw[←hAl]at this;exact(List.mem_filter.1 this).1
  have hfind:es.find? (fun e=>e.born==A[i].born)=some A[i]:=by
   rw[←Array.find?_toList];exact find_born k2 hmem
  unfold Instr.entry;simp[qX (w:={w1 with heap:=w1.heap.setIfInBounds r (.mapIter (some mb) c (seen.push A[i].born) c)}) e2,Stg.run_getObj_map (w:={w1 with heap:=w1.heap.setIfInBounds r (.mapIter (some mb) c (seen.push A[i].born) c)}) e1,hfind,hkey,hval]
end Go.Proofs.YtdehaommhbjakaaGreat.Bw
namespace Go
namespace Stg
open Go.RowKit
variable {P:Program} {F:Fence} {n:Nat}
def td {α:Type} (F:Fence) (n:Nat) (P:Program) (g:Nat) (lb:Array Value) (enc:α→Array Value) (El:List α→α→World→Prop) (Kp:World→World→Prop) (S Sp:List α→Prop) (N:Nat) (w:World):Prop:=
 ∀(l:Nat) (J Jx:List α→World→Prop) (W:World),Below w.heap.size w W→AbidesFrom W.heap.size J→AbidesFrom W.heap.size Jx→J [] W→
  (∀pre x V,J pre V→El pre x V→pre.length<N→YieldAt F (n-1) P l (enc x) V fun e V'=>
   (e=.returned (.bool true)∧J (pre++[x]) V'∧Kp V V')∨(e=.returned (.bool false)∧Jx (pre++[x]) V'))→
  CallsIn F n P g (#[.func (.yield l) #[] #[]]++lb) W fun e V=>(∃v,e=.returned v)∧((∃xs,S xs∧J xs V)∨(∃pre,Sp pre∧Jx pre V))
def Rec (b:Nat) (r:Loop) (W:World):Prop:=W.heap[b+1]? =some (.loop r)∧W.heap[b]? =some (.deferred (some []))
theorem Rec.bj {b:Nat} {r:Loop} {V W:World} (h:Rec b r V) (hk:KeepsFrom b V W):Rec b r W:=⟨hk.same _ _ (Nat.le_succ b) h.1 rfl,hk.same _ _ (Nat.le_refl b) h.2 rfl⟩
theorem Rec.put {b:Nat} {r:Loop} {V:World} (h:Rec b r V) (r':Loop):Rec b r' (V.putObj (b+1) (.loop r')):=
 ⟨World.putObj_heap_same (aL h.1),(World.putObj_heap_other (by omega)).trans h.2⟩
theorem Rec.grown {b:Nat} {r:Loop} {V W:World} {row:Option Nat} (h:Rec b r V) (hg:V.grownBy W row) (hr:∀x,row=some x→∃o:Obj,V.heap[x]? =some o∧o.isWalk=true):Rec b r W:=by
 have no:∀x,row=some x→∃o:Obj,V.heap[x]? =some o∧o.isWalk=true:=hr;refine⟨(hg.block _ (aL h.1) fun e=> ?_).trans h.1,(hg.block _ (aL h.2) fun e=> ?_).trans h.2⟩
 ·obtain⟨o,ho,hw⟩:=no _ e.symm;rw[h.1]at ho;cases ho;simp[Obj.isWalk]at hw
 ·obtain⟨o,ho,hw⟩:=no _ e.symm;rw[h.2]at ho;cases ho;simp[Obj.isWalk]at hw
theorem wu {B C:Nat} (hBC:B≤C) {V:World} {row:Option Nat} (h:∀r,row=some r→C≤r∧∃o:Obj,V.heap[r]? =some o∧o.isWalk=true):∀r,row=some r→B≤r∧∃o:Obj,V.heap[r]? =some o∧o.isCells=false:=
 fun r e=>let ⟨h1,o,h2,h3⟩:=h r e;⟨Nat.le_trans hBC h1,o,h2,Obj.not_cells_of_walk h3⟩
theorem zG {α:Type} {g:Operand} {ps:Array Tmp} {assign body:Code} {Q:Exit→Act→World→Prop} {a:Act} {w:World}
  (hro:F.round=none) (hn:1≤n) {gf:Nat} {lb:Array Value} (hg:a.eval g=.func (.func gf) #[] lb) (hF:F.fn gf) (he:∀args w,(callFunc gf args).run P w=.ok (.enter gf args) w)
  {enc:α→Array Value} {El:List α→α→World→Prop} {Kp:World→World→Prop} {S Sp:List α→Prop} {N:Nat} {w0:World} (hseq:td F (n-1) P gf lb enc El Kp S Sp N w0) (hb0:Below w0.heap.size w0 w) (hps:∀x,(enc x).size=ps.size)
  (hKt:∀ {A B C:World},Kp A B→Kp B C→Kp A C) (hKb:∀(W:World) (l:Nat) (o o':Obj),w.heap.size≤l→W.heap[l]? =some o→o.isCells=false→o.isWalk=false→Kp W (W.putObj l o'))
  (I:List α→World→Prop) (Ix:Code→List α→World→Prop) (hI:OwnFrom w.heap.size I) (hIx:∀c,OwnFrom w.heap.size (Ix c)) (h0:I [] w) (Ax:List α→α→Act→World→Prop) (hAx:∀pre x a',OwnFrom w.heap.size (fun(_:Unit) W=>Ax pre x a' W))
  (hassign:∀(l:Nat) (pre:List α) (x:α) (W:World) (K:Act→World→Prop),I pre W→El pre x W→(∀a' W',KeepsFrom w.heap.size W W'→Kp W W'→I pre W'→Ax pre x a' W'→K a' W')→
   assign.wpIn (F.inRound l) (n-1-1) P (Exit.then K (fun _ _ _=>False)) {tmps:=(ps.zip (enc x)).foldl (fun t (p,v)=>t.setIfInBounds p v) a.tmps,defers:=[]} W)
  (hbody:∀(l:Nat) (pre:List α) (x:α) (a':Act) (W:World),I pre W→Ax pre x a' W→pre.length<N→body.wpIn (F.inRound l) (n-1-1) P (ownPostG w.heap.size Kp I Ix (pre++[x]) W) a' W)
  (hdone:∀(D:Nat) (xs:List α) (W:World),w.heap.size≤D→S xs→I xs W→W.heap[D]? =some (.deferred (some []))→Q .normal {a with defers:={target:=.collected D,args:=#[]}::a.defers} W)
  (hstop:∀(D:Nat) (c:Code) (pre:List α) (W:World),w.heap.size≤D→Sp pre→Ix c pre W→W.heap[D]? =some (.deferred (some []))→c.wpIn F n P Q {a with defers:={target:=.collected D,args:=#[]}::a.defers} W):
  (Code.rangeFunc g ps assign body).wpIn F n P Q a w:=by
 refine wpIn_rangeFunc fun fn hfn=> ?_
 obtain⟨R,hR⟩:∃R:LoopState→Option Code→Loop,R=fun s c=>{state:=s,pending:=c,fn,tmps:=a.tmps,params:=ps,assign,body,defers:=w.heap.size}:=⟨_,rfl⟩
 have st:∀s c,(R s c).state=s:=fun s c=>by rw[hR]
 have busy:∀s c s',{R s c with state:=s'}=R s' c:=fun s c s'=>by rw[hR]
 have ended:∀s c s' c',{R s c with state:=s',pending:=c'}=R s' c':=fun s c s' c'=>by rw[hR]
 have e0:(Instr.enterLoop fn a.tmps ps assign body F.round).run P w=.ok (w.heap.size+1,[{target:=.collected w.heap.size,args:=#[]}]) ((w.alloc (.deferred (some []))).alloc (.loop (R .ready none))):=by
  rw[hro,hR];exact run_enterLoop_outer _ _ _ _ _
 have r0:Rec w.heap.size (R .ready none) ((w.alloc (.deferred (some []))).alloc (.loop (R .ready none))):=by
  have q:=an (w.alloc (.deferred (some []))) (.loop (R .ready none));rw[World.size_alloc]at q;exact⟨q,aI (an w _)⟩
 have s0:w.heap.size≤((w.alloc (.deferred (some []))).alloc (.loop (R .ready none))).heap.size:=by simp only[World.size_alloc];omega
 have i0:I [] ((w.alloc (.deferred (some []))).alloc (.loop (R .ready none))):=hI.alloc _ (hI.alloc _ h0);have b0:Below w0.heap.size w0 ((w.alloc (.deferred (some []))).alloc (.loop (R .ready none))):=hb0.trans ((((Below.refl _ w).alloc (Nat.le_refl _) _).alloc (by simp) _).mono hb0.size);generalize(w.alloc (.deferred (some []))).alloc (.loop (R .ready none))=W1 at*;refine⟨_,_,W1,{target:=.fn (.func gf) lb,args:=#[.func (.yield (w.heap.size+1)) #[] #[]]},W1,gf,#[.func (.yield (w.heap.size+1)) #[] #[]]++lb,W1,e0,by simp only[resolve,hg];simp[go_sem],fun f' hf'=>by simp[Target.leads]at hf';subst hf';exact hF,by simp[invoke,go_sem,he],fun _=>hn,?_⟩;refine(hseq (w.heap.size+1) (fun pre W=>I pre W∧Rec w.heap.size (R .ready none) W) (fun pre W=>∃c,Ix c pre W∧Rec w.heap.size (R .done (some c)) W) W1 b0
  (fun s A B row h1 h2 h3=>⟨hI s A B row h1.1 h2 (wu s0 h3),h1.2.grown h2 fun x e=>(h3 x e).2⟩)
  (fun s A B row ⟨c,h1,h4⟩ h2 h3=>⟨c,hIx c s A B row h1 h2 (wu s0 h3),h4.grown h2 fun x e=>(h3 x e).2⟩) ⟨i0,r0⟩ ?_).mono ?_
 ·rintro pre x W ⟨hi,hrec⟩ hel hlen;have hy:=run_yield (P:=P) (args:=enc x) hrec.1 (by rw[hR];exact hps x);rw[hR]at hy;refine⟨fn,_,assign,body,hy,roundIn_of_wpIn hfn (hassign _ pre x W _ hi hel fun a' Wa hk1 hp1 hi1 hax=> ?_)⟩;have hra:=hrec.bj hk1;have hrb:=hra.put (R .busy none);have hbeg:=run_beginRound (P:=P) hra.1 (st _ _);rw[busy]at hbeg;have hpb:=hKb Wa _ _ (.loop (R .busy none)) (Nat.le_succ w.heap.size) hra.1 rfl rfl;have hib:=hI.putObj (.loop (R .busy none)) hi1 (Nat.le_succ w.heap.size) hra.1 rfl;have hab:=(hAx pre x a').putObj (s:=()) (.loop (R .busy none)) hax (Nat.le_succ w.heap.size) hra.1 rfl;refine⟨_,hbeg,wpIn_mono (hbody _ pre x a' _ hib hab hlen) ?_⟩;have fin:∀(c:Option Code) (W3:World),KeepsFrom w.heap.size (Wa.putObj (w.heap.size+1) (.loop (R .busy none))) W3→
    Rec w.heap.size (R .busy none) W3∧(Instr.endRound (w.heap.size+1) c).run P W3=.ok (.bool c.isNone) (W3.putObj (w.heap.size+1) (.loop (R (if c.isNone then .ready else .done) c))):=fun c W3 hk3=>by
   have h3:=hrb.bj hk3;have h4:=run_endRound (P:=P) c h3.1;rw[ended]at h4;exact⟨h3,h4⟩
  have out:∀(c:Code) (W3:World),KeepsFrom w.heap.size (Wa.putObj (w.heap.size+1) (.loop (R .busy none))) W3→Ix c (pre++[x]) W3→∃v w',(Instr.endRound (w.heap.size+1) (some c)).run P W3=.ok v w'∧
    ((Ending.returned v=.returned (.bool true)∧(I (pre++[x]) w'∧Rec w.heap.size (R .ready none) w')∧Kp W w')∨(Ending.returned v=.returned (.bool false)∧∃c',Ix c' (pre++[x]) w'∧Rec w.heap.size (R .done (some c')) w')):=fun c W3 hk3 hx3=>by
   obtain⟨h3,h4⟩:=fin (some c) W3 hk3;exact⟨_,_,h4,.inr ⟨rfl,c,(hIx c).putObj _ hx3 (Nat.le_succ _) h3.1 rfl,h3.put _⟩⟩
  rintro e a3 W3 hp;cases e with
  |normal=>
   obtain⟨hk3,hp3,hi3⟩:=hp;obtain⟨h3,h4⟩:=fin none W3 hk3;exact⟨_,_,h4,.inl ⟨rfl,⟨hI.putObj _ hi3 (Nat.le_succ _) h3.1 rfl,h3.put _⟩,hKt hp1 (hKt (hKt hpb hp3) (hKb _ _ _ _ (Nat.le_succ _) h3.1 rfl rfl))⟩⟩
  |ret=>exact out .ret W3 hp.1 hp.2
  |exit id=>exact out (.exit id) W3 hp.1 hp.2
  |goto t=>exact out (.goto t) W3 hp.1 hp.2
  |panic _=>exact hp.elim
  |outgrown=>exact hp.elim
 ·rintro e W2 ⟨⟨v,rfl⟩,h⟩;have off:∀ {s c},s≠ .busy→Rec w.heap.size (R s c) W2→(Instr.endLoop (w.heap.size+1)).run P W2=.ok c (W2.putObj (w.heap.size+1) (.loop (R .exhausted c))):=fun {s c} hs hr=>by
   have:=run_endLoop (P:=P) hr.1 (by rw[st];exact hs);rw[busy]at this;rw[this,hR]
  rcases h with⟨xs,hS,hi,hr⟩|⟨pre,hS,c,hi,hr⟩
  ·exact⟨none,_,off (by simp) hr,hdone _ xs _ (Nat.le_refl _) hS (hI.putObj _ hi (Nat.le_succ _) hr.1 rfl) (hr.put _).2⟩
  ·exact⟨some c,_,off (by simp) hr,hstop _ c pre _ (Nat.le_refl _) hS ((hIx c).putObj _ hi (Nat.le_succ _) hr.1 rfl) (hr.put _).2⟩
theorem zI {α:Type} {g:Operand} {ps:Array Tmp} {assign body:Code} {Q:Exit→Act→World→Prop} {a:Act} {w:World}
  (hro:F.round=none) (hn:1≤n) {gf:Nat} {lb:Array Value} (hg:a.eval g=.func (.func gf) #[] lb) (hF:F.fn gf) (he:∀args w,(callFunc gf args).run P w=.ok (.enter gf args) w)
  {enc:α→Array Value} {El:List α→α→World→Prop} {Kp:World→World→Prop} {S Sp:List α→Prop} {N:Nat} {w0:World} (hseq:td F (n-1) P gf lb enc El Kp S Sp N w0) (hb0:Below w0.heap.size w0 w) (hps:∀x,(enc x).size=ps.size)
  (hKt:∀ {A B C:World},Kp A B→Kp B C→Kp A C) (hKb:∀(W:World) (l:Nat) (o o':Obj),w.heap.size≤l→W.heap[l]? =some o→o.isCells=false→o.isWalk=false→Kp W (W.putObj l o'))
  (I:List α→World→Prop) (Ix:Code→List α→World→Prop) (hI:OwnFrom w.heap.size I) (hIx:∀c,OwnFrom w.heap.size (Ix c)) (h0:I [] w)
  (fr:Array Value→α→Nat→Array Value) (Px:List α→α→Nat→World→Prop) (hPx:∀pre x r,OwnFrom w.heap.size (fun(_:Unit) W=>Px pre x r W))
  (hassign:∀(l:Nat) (pre:List α) (x:α) (W:World) (K:Act→World→Prop),I pre W→El pre x W→(∀r W',KeepsFrom w.heap.size W W'→Kp W W'→I pre W'→Px pre x r W'→K {tmps:=fr a.tmps x r,defers:=[]} W')→
   assign.wpIn (F.inRound l) (n-1-1) P (Exit.then K (fun _ _ _=>False)) {tmps:=(ps.zip (enc x)).foldl (fun t (p,v)=>t.setIfInBounds p v) a.tmps,defers:=[]} W)
  (hbody:∀(l:Nat) (pre:List α) (x:α) (r:Nat) (W:World),I pre W→Px pre x r W→pre.length<N→body.wpIn (F.inRound l) (n-1-1) P (ownPostG w.heap.size Kp I Ix (pre++[x]) W) {tmps:=fr a.tmps x r,defers:=[]} W)
  (hdone:∀(D:Nat) (xs:List α) (W:World),w.heap.size≤D→S xs→I xs W→W.heap[D]? =some (.deferred (some []))→Q .normal {a with defers:={target:=.collected D,args:=#[]}::a.defers} W)
  (hstop:∀(D:Nat) (c:Code) (pre:List α) (W:World),w.heap.size≤D→Sp pre→Ix c pre W→W.heap[D]? =some (.deferred (some []))→c.wpIn F n P Q {a with defers:={target:=.collected D,args:=#[]}::a.defers} W):
  (Code.rangeFunc g ps assign body).wpIn F n P Q a w:=
 zG hro hn hg hF he hseq hb0 hps hKt hKb I Ix hI hIx h0 (fun pre x a' W=>∃r,a'={tmps:=fr a.tmps x r,defers:=[]}∧Px pre x r W)
  (fun pre x _ s A B row ⟨r,h1,h2⟩ hg hr=>⟨r,h1,hPx pre x r s A B row h2 hg hr⟩)
  (fun l pre x W K h1 h2 hK=>hassign l pre x W K h1 h2 fun r _ k1 k2 k3 k4=>hK _ _ k1 k2 k3 ⟨r,rfl,k4⟩)
  (fun l pre x _ W h1 ⟨r,h2,h3⟩ h4=>h2▸hbody l pre x r W h1 h3 h4) hdone hstop
end Stg
end Go
namespace Go.Proofs.YtdehaommhbjakaaGreat.Bw
open RowKit Stg
attribute [local go_sem] Oper.semAt_some
def jB (w:World) (mv:Value) (bs:List ak):Prop:=(mv=.map none∧bs=[])∨∃mb,mv=.map (some mb)∧dg w mb bs
def jb (w:World) (r:Nat) (mv:Value) (rest:List ak):Prop:=(mv=.map none∧rest=[]∧w.heap[r]? =some (.mapIter none 0 #[] 0))∨∃mb,mv=.map (some mb)∧r≠mb∧lH w r mb rest
def oO:Value→Option Nat
 | .map m=>m
 |_=>none
theorem jB.bj {w w':World} {mv:Value} {bs:List ak} (h:jB w mv bs) (hk:∀mb,oO mv=some mb→w'.heap[mb]? =w.heap[mb]?):jB w' mv bs:=by
 rcases h with h|⟨mb,rfl,es,c,h1,h2⟩
 ·exact .inl h
 ·exact .inr ⟨mb,rfl,es,c,(hk mb rfl).trans h1,h2⟩
theorem jB.lt {w:World} {mv:Value} {bs:List ak} (h:jB w mv bs):∀mb,oO mv=some mb→mb<w.heap.size:=by
 rcases h with⟨rfl,_⟩|⟨mb,rfl,es,c,h1,h2⟩
 ·intro mb h;cases h
 ·intro mb' h;cases h;exact aL h1
theorem jb.walk {w:World} {r:Nat} {mv:Value} {rest:List ak} (h:jb w r mv rest):∃o:Obj,w.heap[r]? =some o∧o.isWalk=true:=by
 rcases h with⟨_,_,h⟩|⟨_,_,_,_,_,_,_,_,_,h,_⟩
 ·exact⟨_,h,rfl⟩
 ·exact⟨_,h,rfl⟩
theorem jb.same {w w':World} {r:Nat} {mv:Value} {rest:List ak} (h:jb w r mv rest) (h1:∀mb,oO mv=some mb→w'.heap[mb]? =w.heap[mb]?) (h2:w'.heap[r]? =w.heap[r]?):jb w' r mv rest:=by
 rcases h with⟨e,f,h⟩|⟨mb,e,hr,h⟩
 ·exact .inl ⟨e,f,h2.trans h⟩
 ·subst e;exact .inr ⟨mb,rfl,hr,h.same (h1 mb rfl) h2⟩
theorem Ft {w:World} {mv:Value} {bs:List ak} (h:jB w mv bs):∃ob,(Instr.range 157 mv).run Tryz.prog w=.ok (.pointer (some ⟨w.heap.size,0,none⟩)) (w.alloc ob)∧jb (w.alloc ob) w.heap.size mv bs:=by
 rcases h with⟨rfl,rfl⟩|⟨mb,rfl,h⟩
 ·refine⟨_,?_,.inl ⟨rfl,rfl,an _ _⟩⟩;unfold Instr.range;simp[run_underlying Tryz.underlying157]
 ·obtain⟨c,h1,h2⟩:=F7 h;refine⟨_,h1,.inr ⟨mb,rfl,?_,h2⟩⟩;obtain⟨es,c,h1,_⟩:=h;have:=aL h1;omega
def o4 (w:World) (r:Nat):Nat:=match w.heap[r]? with
 |some (.mapIter (some m) _ seen _)=>match w.heap[m]? with
  |some (.map es _)=>(es.toList.filter fun e=> !seen.contains e.born).length
  |_=>0
 |_=>0
theorem jb.left {w:World} {r:Nat} {mv:Value} {rest:List ak} (h:jb w r mv rest):o4 w r=rest.length:=by
 rcases h with⟨_,rfl,h⟩|⟨mb,_,_,es,c,seen,h1,_,_,h2,h3⟩
 ·unfold o4;rw[h];rfl
 ·unfold o4;rw[h2];simp only[h1];exact h3.length
theorem AI {w:World} {r:Nat} {mv:Value} (h:jb w r mv []) (ty:TypeId):∃w',(Instr.next (.pointer (some ⟨r,0,none⟩)) false ty).run Tryz.prog w=.ok (.tuple #[.bool false]) w'∧Mod [] w w':=by
 rcases h with⟨_,_,h⟩|⟨mb,_,_,h⟩
 ·refine⟨w,?_,Mod.refl _ _⟩;unfold Instr.next;simp[getObj,Sem.run,h,Sem.run_bind]
 ·exact Cz h ty
theorem AY {w:World} {r:Nat} {mv:Value} {rest:List ak} (h:jb w r mv rest) (hne:rest≠ []) (ty:TypeId):∃(i:Nat) (b:ak) (w':World),rest[i]? =some b∧(Instr.next (.pointer (some ⟨r,0,none⟩)) false ty).run Tryz.prog w=.ok (.tuple #[.bool true,kv b.1,bv b]) w'∧jb w' r mv (rest.eraseIdx i)∧Mod [r] w w'∧w'.heap.size=w.heap.size∧(Instr.entry (.pointer (some ⟨r,0,none⟩))).run Tryz.prog w'=.ok (.tuple #[kv b.1,bv b]) w':=by
 rcases h with⟨_,rfl,_⟩|⟨mb,e,hr,h⟩
 ·exact absurd rfl hne
 ·obtain⟨i,b,w',h1,h2,h3,h4⟩:=CS h hne hr ty;exact⟨i,b,w',h1,h2,.inr ⟨mb,e,hr,h3⟩,h4⟩
theorem AG (mv:Value) (hmv:∃m,mv=.map m) (w:World):Calls Tryz.prog 194 #[mv] w fun e w'=>e=.returned (.func (.func 204) #[] #[.pointer (some ⟨w.heap.size,0,none⟩)])∧w'=w.alloc (.cells #[mv] 157):=by
 obtain⟨m,rfl⟩:=hmv;go_enter Tryz.func194,Tryz.ntmps194;go_wp2;go_ret;exact⟨rfl,rfl⟩
theorem v8 {a b:World} (h:Mod [] a b) {row:Option Nat}:a.grownBy b row:=
 let hb:=h.below;⟨hb.os,hb.tape,hb.output,hb.size,fun k hk _=>hb.block k hk⟩
def tZ (n₀:Nat) (V V':World):Prop:=RowKit.Below n₀ V V'∧KeepsWalks V V'
theorem C2 {bs pre rest:List ak} {i:Nat} {b:ak} (h:bs.Perm (pre++rest)) (hb:rest[i]? =some b):bs.Perm ((pre++[b])++rest.eraseIdx i):=by
 obtain⟨hi,rfl⟩:=List.getElem?_eq_some_iff.1 hb;refine h.trans ?_;rw[List.append_assoc];refine List.Perm.append_left pre ?_;have e:rest=rest.take i++rest[i]::rest.drop (i+1):=by rw[List.getElem_cons_drop,List.take_append_drop]
 rw[List.eraseIdx_eq_take_drop_succ];conv=>lhs;rw[e]
 exact List.perm_middle
theorem BY (n':Nat) (hn':1≤n') (l Bs n₀:Nat) {mv:Value} {bs:List ak} (J Jx:List ak→World→Prop) (w0 W:World) (h0:n₀≤w0.heap.size) (hR:jB w0 mv bs) (hf:∀mb,oO mv=some mb→mb<n₀) (hW:RowKit.Below w0.heap.size w0 W)
  (hBs:w0.heap[Bs]? =some (.cells #[mv] 157 (0,0))) (hJ:AbidesFrom W.heap.size J) (h00:J [] W)
  (hY:∀pre x V,J pre V→pre.length<bs.length→YieldAt Fence.wide (n'-1) Tryz.prog l #[bv x] V fun e V'=>
   (e=.returned (.bool true)∧J (pre++[x]) V'∧tZ n₀ V V')∨(e=.returned (.bool false)∧Jx (pre++[x]) V')):
  CallsIn Fence.wide n' Tryz.prog 204 #[.func (.yield l) #[] #[],.pointer (some ⟨Bs,0,none⟩)] W fun e V=>(∃v,e=.returned v)∧((∃xs,xs.Perm bs∧J xs V)∨(∃pre:List ak,True∧Jx pre V)):=by
 have hMW:jB W mv bs:=hR.bj fun mb h=>(hW.block mb (by have:=hf mb h;omega))
 have hcl:=(Mod.lB hW).at hBs (by simp);have hcc:=ae hcl;have hmm:∃m,mv=.map m:=by rcases hR with⟨rfl,_⟩|⟨mb,rfl,_⟩<;>exact⟨_,rfl⟩
 obtain⟨m,rfl⟩:=hmm;obtain⟨ob,hr1,hr2⟩:=Ft hMW;have hWsz:=hW.size;have hr2H:=zh hr2;have hJH:=zh hJ;have hYH:=zh hY;have h00H:=zh h00;have hRH:=zh hR;have hW1H:=zh hW;have hfH:=zh hf;clear hW hBs hJ h00 hY hcl hR hMW hr2 hf;refine callsIn_of_wp Tryz.func204 rfl trivial ?_ rfl;simp only[Tryz.ntmps204,List.size_toArray,List.length_cons,List.length_nil,Nat.reduceAdd,Nat.reduceSub,Array.replicate_succ,Array.replicate_zero,List.push_toArray,List.append_toArray,List.nil_append,List.cons_append];gi_wp2_with fail;have hM0:=(Mod.refl [] W).alloc ob;have hJ0:=zh (hJH.out _ _ _ none h00H.out (World.grownBy_alloc W ob none) (by simp));have hsz0:(W.alloc ob).heap.size=W.heap.size+1:=by simp
 have hB0:RowKit.Below n₀ w0 (W.alloc ob):=(hW1H.out.mono h0).trans (hM0.below.mono (Nat.le_trans h0 hWsz));have hB0H:=zh hB0;clear hr1 hM0 hB0 hcc h00H;generalize W.alloc ob=W1 at*;generalize hr:W.heap.size=r at*
 gi_loopw [4] (fun _ wr=>∃pre rest:List ak,jb wr r (.map m) rest∧bs.Perm (pre++rest)∧J pre wr∧RowKit.Below n₀ w0 wr∧r<wr.heap.size) (fun _ wr=>o4 wr r)
 case atStart=>exact⟨[],bs,hr2H.out,by simp,hJ0.out,hB0H.out,by omega⟩
 case round=>
  obtain⟨pre,rest,hit,hp,hJr,hBr,hsz⟩:=hrel;have hpH:=zh hp;have hJrH:=zh hJr;have hBrH:=zh hBr;have hitH:=zh hit;clear hp hJr hBr hJ0 hB0H hr2H;by_cases hne:rest=[]
  ·subst hne;obtain⟨w2,hn1,hn2⟩:=AI hit (0:Nat);clear hit;have hJ2:=hJH.out _ _ _ none hJrH.out (v8 hn2) (by simp);have hJ2H:=zh hJ2;clear hJ2 hn2
   gi_wp2_with fail
   go_end0;exact⟨⟨_,rfl⟩,.inl ⟨pre,by have:=hpH.out;rw[List.append_nil]at this;exact this.symm,hJ2H.out⟩⟩
  ·obtain⟨i,b,w2,hbi,hn1,hit2,hn2,hs2,hen⟩:=AY hit hne (0:Nat);have hwk:=hit.walk;have hg2:wr.grownBy w2 (some r):=⟨hn2.os,hn2.tape,hn2.output,hn2.size,fun k hk hk2=>hn2.block k hk (by simpa using fun e=>hk2 (by rw[e]))⟩;have hJ2:=hJH.out _ _ _ (some r) hJrH.out hg2 (fun r' e=>by cases e;exact⟨Nat.le_refl _,hwk⟩);have hJ3:=hJH.out _ _ _ none hJ2 (World.grownBy_alloc w2 (.cells #[.int .i64 b.1.1,.int .i64 b.1.2,.int .i64 b.2.1,.int .i64 b.2.2] 222) none) (by simp);have hB2:RowKit.Below n₀ wr w2:=⟨hn2.os,hn2.tape,hn2.output,hn2.size,fun k hk=>hn2.block k (by omega) (by simp;omega)⟩;have hB3:=hBrH.out.trans (hB2.trans ((RowKit.Below.refl n₀ w2).alloc (by omega) (.cells #[.int .i64 b.1.1,.int .i64 b.1.2,.int .i64 b.2.1,.int .i64 b.2.2] 222)));have hit3:jb (w2.alloc (.cells #[.int .i64 b.1.1,.int .i64 b.1.2,.int .i64 b.2.1,.int .i64 b.2.2] 222)) r (.map m) (rest.eraseIdx i):=hit2.same (fun mb hmb=>RowKit.Below.heap_alloc _ _ _ (by have:=hfH.out mb hmb;omega)) (RowKit.Below.heap_alloc _ _ _ (by omega));have hp2:=C2 hpH.out hbi;have hlen:pre.length<bs.length:=by have:=hp2.length_eq;simp at this;omega
   have hlr:o4 wr r=rest.length:=hit.left;have hil:i<rest.length:=(List.getElem?_eq_some_iff.1 hbi).1;have hYx:=hYH.out pre b _ hJ3 hlen;have hsz3:(w2.alloc (.cells #[.int .i64 b.1.1,.int .i64 b.1.2,.int .i64 b.2.1,.int .i64 b.2.2] 222)).heap.size=wr.heap.size+1:=by simp[hs2]
   have hB3H:=zh hB3;have hit3H:=zh hit3;have hp2H:=zh hp2;have hlrH:=zh hlr;obtain⟨fn,tmps,assign,body,hy,hR⟩:=hYx;unfold bv at hy hn1 hen;clear hit hJ2 hJ3 hB2 hB3 hit3 hp2 hbi hit2 hn2 hg2 hwk hlen hlr hitH hJrH hpH hBrH
   gi_wp2_with fail
   refine hR.mono ?_;rintro e W3 (⟨rfl,hJ4,hk4,hk5⟩|⟨rfl,hJx4⟩)
   ·have hit4:=hit3H.out.same (fun mb hmb=>hk4.block mb (by have:=hfH.out mb hmb;omega)) (by obtain⟨o,h1,h2⟩:=hit3H.out.walk;rw[h1,hk5.same r o h1 h2]);have hit4H:=zh hit4;have hB4H:=zh (hB3H.out.trans hk4);have hJ4H:=zh hJ4;have hsz4:=hk5.size;clear hit4 hk4 hk5 hJ4
    gi_wp2_with fail
    go_roundw
    case rel=>exact⟨pre++[b],rest.eraseIdx i,hit4H.out,hp2H.out,hJ4H.out,hB4H.out,by omega⟩
    case measure=>rw[hit4H.out.left,hlrH.out,List.length_eraseIdx];simp[hil];omega
   ·gi_wp2_with fail
    refine bodyPost_ret (results_none rfl _ _ _) rfl ?_;exact⟨⟨_,rfl⟩,.inr ⟨_,trivial,hJx4⟩⟩
theorem AH (n':Nat) (hn':1≤n') (Bs n₀:Nat) {mv:Value} {bs:List ak} (w0:World) (h0:n₀≤w0.heap.size) (hR:jB w0 mv bs) (hf:∀mb,oO mv=some mb→mb<n₀)
  (hBs:w0.heap[Bs]? =some (.cells #[mv] 157 (0,0))):
  td Fence.wide n' Tryz.prog 204 #[.pointer (some ⟨Bs,0,none⟩)] (fun b:ak=>#[bv b]) (fun _ _ _=>True) (tZ n₀) (fun ys=>ys.Perm bs) (fun _=>True) bs.length w0:=fun l J Jx W hW hJ _ h00 hY=>
 BY n' hn' l Bs n₀ J Jx w0 W h0 hR hf hW hBs hJ h00 fun pre x V h1 h2=>hY pre x V h1 trivial h2
end Go.Proofs.YtdehaommhbjakaaGreat.Bw
namespace Go.Proofs.YtdehaommhbjakaaGreat.Bw
open RowKit Stg Go.Sort Go.Proofs
theorem nQ (b:ak):(cZ b).length=4:=rfl
theorem wX (d:Array ak) (i:Nat) (hi:i<d.size*4):(flat cZ d.toList)[i]? =some ((flatK cZ 4 d)[i]!):=by
 have hq:i/4<d.size:=by omega
 have h1:=ml nQ d.toList (i/4) (i%4) (by simpa using hq) (Nat.mod_lt _ (by omega));rw[Nat.div_add_mod']at h1;rw[h1,get_flatK cZ 4 d i hi];have e:d[i/4]! =d.toList[i/4]'(by simpa using hq):=by rw[getElem!_pos d (i/4) hq];simp
 rw[e];have hr:i%4<(cZ (d.toList[i/4]'(by simpa using hq))).length:=by rw[nQ];exact Nat.mod_lt _ (by omega)
 rw[List.getElem?_eq_getElem hr,getElem!_pos (cZ (d.toList[i/4]'(by simpa using hq))) (i%4) hr]
theorem C4 {w:World} {base:Nat} {e:TypeId} {g n cap:Nat} {L:List ak} (h:w.ownsRow base e 4 (.slice (some ⟨g,0,none⟩) n cap) n (flat cZ L)) (hL:L.length=n):HoldsK cZ 4 w g 0 L.toArray:=by
 intro j hj;have hj':j<L.length*4:=by simpa using hj
 rw[Nat.zero_add];refine⟨?_,h.frozenAt j⟩;rw[h.cellAt j (by omega)];have:=wX L.toArray j (by simpa using hj');simpa using this
theorem BT {w:World} {base:Nat} {e:TypeId} {g n cap:Nat} {L:List ak} (h:w.ownsRow base e 4 (.slice (some ⟨g,0,none⟩) n cap) n (flat cZ L)) (d':Array ak) (hd:d'.size=n) (m:Nat) (os:Array Obj):
  (sortWorldK cZ 4 w g 0 m d' os).ownsRow base e 4 (.slice (some ⟨g,0,none⟩) n cap) n (flat cZ d'.toList)∧Mod [g] w (sortWorldK cZ 4 w g 0 m d' os):=by
 rcases h.2 with⟨h,_⟩|⟨g',cap',cur,hv,h1,h2,h3,h4,h5,h6⟩
 ·simp at h
 ·simp at hv;obtain⟨rfl,rfl⟩:=hv;have hg:=aL h2;have hb:(sortWorldK cZ 4 w g 0 m d' os).heap[g]? =some (.cells (putCells id 0 (flatK cZ 4 d') cur) e (0,0)):=by
   unfold sortWorldK;rw[heap_grow_old _ _ (by simpa[putRowK]using hg)];simp[putRowK,putRow,mapBlock,Sort.ahead,Array.getElem?_modify,h2,onCells]
  refine⟨⟨by rw[gZ nQ];simp[hd],.inr ⟨g,cap,_,rfl,h1,hb,h3,h4,by simp[putCells,h5],?_⟩⟩,⟨rfl,rfl,rfl,?_,fun k hk hkg=> ?_⟩⟩
  ·apply List.ext_getElem?;intro i;by_cases hi:i<n*4
   ·have hic:i<cur.size:=by rw[h5];have:=Nat.mul_le_mul_right 4 h3;omega
    rw[List.getElem?_take_of_lt hi,wX d' i (by rw[hd];exact hi),Array.getElem?_toList];unfold putCells;rw[Array.getElem?_mapIdx,Array.getElem?_eq_getElem hic];simp[hd,hi]
   ·rw[List.getElem?_eq_none (by simp;omega),List.getElem?_eq_none (by rw[gZ nQ];simp[hd];omega)]
  ·unfold sortWorldK grow;simp[putRowK]
  ·unfold sortWorldK;rw[heap_grow_old _ _ (by simpa[putRowK]using hk)];have hne:g≠k:=fun e=>hkg (by simp[e])
   simp[putRowK,putRow,mapBlock,Sort.ahead,Array.getElem?_modify,hne]
def gz (x y:Int):Int:=if x<y then -1 else if y<x then 1 else 0
def cf (a b:ak):Int:=if gz a.1.1 b.1.1≠0 then gz a.1.1 b.1.1 else gz a.1.2 b.1.2
theorem qn (a b:ak):ltOf cf a b=ff a.1 b.1:=by
 unfold ltOf cf gz ff;by_cases h1:a.1.1<b.1.1
 ·simp[h1]
 ·by_cases h2:b.1.1<a.1.1
  ·have:¬a.1.1=b.1.1:=by omega
   simp[h2,this,h1]
  ·have:a.1.1=b.1.1:=by omega
   simp[this];by_cases h3:a.1.2<b.1.2
   ·simp[h3]
   ·by_cases h4:b.1.2<a.1.2<;>simp[h3,h4]
theorem Gt:SWO (ltOf cf) where
 irrefl x:=by rw[qn];exact vD _
 trans x y z h1 h2:=by rw[qn]at*;exact vX h1 h2
 ntrans x y z h1 h2:=by
  rw[qn]at*;simp only[ff,Bool.or_eq_false_iff,Bool.and_eq_false_iff,decide_eq_false_iff_not]at*;omega
theorem BH {d d':Array ak} (hn:(d.toList.map (·.1)).Nodup) (hp:PermIn 0 d.size d d') (hs:SortedIn (ltOf cf) 0 d.size d'):di d'.toList∧d'.toList.Perm d.toList∧d'.size=d.size:=by
 obtain⟨h1,_,h3⟩:=hp;have hp':d'.toList.Perm d.toList:=by
  have e1:d'.extract 0 d.size=d':=by rw[←h1,Array.extract_size]
  have e2:d.extract 0 d.size=d:=Array.extract_size
  rwa [e1,e2]at h3
 refine⟨?_,hp',h1⟩;have hn':(d'.toList.map (·.1)).Nodup:=((hp'.map _).nodup_iff).2 hn;unfold di;rw[List.pairwise_iff_getElem];intro i j hi hj hij;have hi':i<d'.size:=by simpa using hi
 have hj':j<d'.size:=by simpa using hj
 have hs':=hs i j (Nat.zero_le _) hij (by omega);rw[getElem!_pos d' i hi',getElem!_pos d' j hj',qn]at hs';have hne:d'[j].1≠d'[i].1:=by
  rw[List.Nodup,List.pairwise_map,List.pairwise_iff_getElem]at hn';have:=hn' i j hi hj hij;simp only[Array.getElem_toList]at this;exact fun e=>this e.symm
 have:=vT hne hs';simpa using this
end Go.Proofs.YtdehaommhbjakaaGreat.Bw
