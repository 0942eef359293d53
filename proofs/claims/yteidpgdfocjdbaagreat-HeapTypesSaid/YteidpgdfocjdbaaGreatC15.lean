/- Joined contracts. No conditions. -/
import Derived.RangeFuncNested
import Derived.RangeFuncBound
import Derived.RangeFuncCalls
import Derived.RangeFuncLeaves
import Derived.RangeFuncBox
import Derived.Shelf.Abstract
import Derived.Shelf.RegionOpen
import Derived.WalkKit
import Derived.OwnWalkIn
import Derived.TacticsInMore
import Derived.LoopNIn
import Derived.LoopIn
import Derived.Maps.AppendAt
import Derived.Sort.MapsRangeIn
import Derived.Shelf.SlSortCmp.WholeK
import Derived.Shelf.SlSortCmp.NoneTotal
import Derived.Test.YteidpgdfocjdbaaGreatCS
import Derived.Test.YteidpgdfocjdbaaGreatC01
import Derived.Test.YteidpgdfocjdbaaGreatC06
import Derived.Test.YteidpgdfocjdbaaGreatC14
set_option maxHeartbeats 4000000
set_option maxRecDepth 100000
namespace Go
namespace Stg
open Go.RowKit
variable {P:Program} {F:Fence} {n:Nat}
def SeqSays {α:Type} (F:Fence) (n:Nat) (P:Program) (g:Nat) (lb:Array Value) (enc:α→Array Value) (El:List α→α→World→Prop) (Kp:World→World→Prop) (S Sp:List α→Prop) (N:Nat) (w:World):Prop:=
 ∀(l:Nat) (J Jx:List α→World→Prop) (W:World),Below w.heap.size w W→AbidesFrom W.heap.size J→AbidesFrom W.heap.size Jx→J [] W→
  (∀pre x V,J pre V→El pre x V→pre.length<N→YieldAt F (n-1) P l (enc x) V fun e V'=>
   (e=.returned (.bool true)∧J (pre++[x]) V'∧Kp V V')∨(e=.returned (.bool false)∧Jx (pre++[x]) V'))→
  CallsIn F n P g (#[.func (.yield l) #[] #[]]++lb) W fun e V=>(∃v,e=.returned v)∧((∃xs,S xs∧J xs V)∨(∃pre,Sp pre∧Jx pre V))
def Rec (b:Nat) (r:Loop) (W:World):Prop:=W.heap[b+1]? =some (.loop r)∧W.heap[b]? =some (.deferred (some []))
theorem Rec.keep {b:Nat} {r:Loop} {V W:World} (h:Rec b r V) (hk:KeepsFrom b V W):Rec b r W:=⟨hk.same _ _ (Nat.le_succ b) h.1 rfl,hk.same _ _ (Nat.le_refl b) h.2 rfl⟩
theorem Rec.put {b:Nat} {r:Loop} {V:World} (h:Rec b r V) (r':Loop):Rec b r' (V.putObj (b+1) (.loop r')):=
 ⟨World.putObj_heap_same (lt_of h.1),(World.putObj_heap_other (by omega)).trans h.2⟩
theorem Rec.grown {b:Nat} {r:Loop} {V W:World} {row:Option Nat} (h:Rec b r V) (hg:V.grownBy W row) (hr:∀x,row=some x→∃o:Obj,V.heap[x]? =some o∧o.isWalk=true):Rec b r W:=by
 have no:∀x,row=some x→∃o:Obj,V.heap[x]? =some o∧o.isWalk=true:=hr;refine⟨(hg.block _ (lt_of h.1) fun e=> ?_).trans h.1,(hg.block _ (lt_of h.2) fun e=> ?_).trans h.2⟩
 ·obtain⟨o,ho,hw⟩:=no _ e.symm;rw[h.1]at ho;cases ho;simp[Obj.isWalk]at hw
 ·obtain⟨o,ho,hw⟩:=no _ e.symm;rw[h.2]at ho;cases ho;simp[Obj.isWalk]at hw
theorem walk_from {B C:Nat} (hBC:B≤C) {V:World} {row:Option Nat} (h:∀r,row=some r→C≤r∧∃o:Obj,V.heap[r]? =some o∧o.isWalk=true):∀r,row=some r→B≤r∧∃o:Obj,V.heap[r]? =some o∧o.isCells=false:=
 fun r e=>let ⟨h1,o,h2,h3⟩:=h r e;⟨Nat.le_trans hBC h1,o,h2,Obj.not_cells_of_walk h3⟩
theorem wpIn_rangeFunc_says {α:Type} {g:Operand} {ps:Array Tmp} {assign body:Code} {Q:Exit→Act→World→Prop} {a:Act} {w:World}
  (hro:F.round=none) (hn:1≤n) {gf:Nat} {lb:Array Value} (hg:a.eval g=.func (.func gf) #[] lb) (hF:F.fn gf) (he:∀args w,(callFunc gf args).run P w=.ok (.enter gf args) w)
  {enc:α→Array Value} {El:List α→α→World→Prop} {Kp:World→World→Prop} {S Sp:List α→Prop} {N:Nat} {w0:World} (hseq:SeqSays F (n-1) P gf lb enc El Kp S Sp N w0) (hb0:Below w0.heap.size w0 w) (hps:∀x,(enc x).size=ps.size)
  (hKt:∀ {A B C:World},Kp A B→Kp B C→Kp A C) (hKb:∀(W:World) (l:Nat) (o o':Obj),w.heap.size≤l→W.heap[l]? =some o→o.isCells=false→o.isWalk=false→Kp W (W.putObj l o'))
  (I:List α→World→Prop) (Ix:Code→List α→World→Prop) (hI:OwnFrom w.heap.size I) (hIx:∀c,OwnFrom w.heap.size (Ix c)) (h0:I [] w) (Ax:List α→α→Act→World→Prop) (hAx:∀pre x a',OwnFrom w.heap.size (fun(_:Unit) W=>Ax pre x a' W))
  (hassign:∀(l:Nat) (pre:List α) (x:α) (W:World) (K:Act→World→Prop),I pre W→El pre x W→(∀a' W',KeepsFrom w.heap.size W W'→Kp W W'→I pre W'→Ax pre x a' W'→K a' W')→
   assign.wpIn (F.inRound l) (n-1-1) P (Exit.then K (fun _ _ _=>False)) {tmps:=(ps.zip (enc x)).foldl (fun t (p,v)=>t.setIfInBounds p v) a.tmps,defers:=[]} W)
  (hbody:∀(l:Nat) (pre:List α) (x:α) (a':Act) (W:World),I pre W→Ax pre x a' W→pre.length<N→body.wpIn (F.inRound l) (n-1-1) P (ownPostG w.heap.size Kp I Ix (pre++[x]) W) a' W)
  (hdone:∀(D:Nat) (xs:List α) (W:World),w.heap.size≤D→S xs→I xs W→W.heap[D]? =some (.deferred (some []))→Q .normal {a with defers:={target:=.collected D,args:=#[]}::a.defers} W)
  (hstop:∀(D:Nat) (c:Code) (pre:List α) (W:World),w.heap.size≤D→Sp pre→Ix c pre W→W.heap[D]? =some (.deferred (some []))→c.wpIn F n P Q {a with defers:={target:=.collected D,args:=#[]}::a.defers} W):
  (Code.rangeFunc g ps assign body).wpIn F n P Q a w:=by
 refine wpIn_rangeFunc fun fn hfn=> ?_
 obtain⟨R,hR⟩:∃R:LoopState→Option Code→Loop,R=fun s c=>{state:=s,pending:=c,fn,tmps:=a.tmps,params:=ps,assign,body,defers:=w.heap.size}:=⟨_,rfl⟩
 have st:∀s c,(R s c).state=s:=fun s c=>by rw[hR]
 have busy:∀s c s',{R s c with state:=s'}=R s' c:=fun s c s'=>by rw[hR]
 have ended:∀s c s' c',{R s c with state:=s',pending:=c'}=R s' c':=fun s c s' c'=>by rw[hR]
 have e0:(Instr.enterLoop fn a.tmps ps assign body F.round).run P w=.ok (w.heap.size+1,[{target:=.collected w.heap.size,args:=#[]}]) ((w.alloc (.deferred (some []))).alloc (.loop (R .ready none))):=by
  rw[hro,hR];exact run_enterLoop_outer _ _ _ _ _
 have r0:Rec w.heap.size (R .ready none) ((w.alloc (.deferred (some []))).alloc (.loop (R .ready none))):=by
  have q:=at_alloc (w.alloc (.deferred (some []))) (.loop (R .ready none));rw[World.size_alloc]at q;exact⟨q,at_alloc_old (at_alloc w _)⟩
 have s0:w.heap.size≤((w.alloc (.deferred (some []))).alloc (.loop (R .ready none))).heap.size:=by simp only[World.size_alloc];omega
 have i0:I [] ((w.alloc (.deferred (some []))).alloc (.loop (R .ready none))):=hI.alloc _ (hI.alloc _ h0);have b0:Below w0.heap.size w0 ((w.alloc (.deferred (some []))).alloc (.loop (R .ready none))):=hb0.trans ((((Below.refl _ w).alloc (Nat.le_refl _) _).alloc (by simp) _).mono hb0.size);generalize(w.alloc (.deferred (some []))).alloc (.loop (R .ready none))=W1 at*;refine⟨_,_,W1,{target:=.fn (.func gf) lb,args:=#[.func (.yield (w.heap.size+1)) #[] #[]]},W1,gf,#[.func (.yield (w.heap.size+1)) #[] #[]]++lb,W1,e0,by simp only[resolve,hg];simp[go_sem],fun f' hf'=>by simp[Target.leads]at hf';subst hf';exact hF,by simp[invoke,go_sem,he],fun _=>hn,?_⟩;refine(hseq (w.heap.size+1) (fun pre W=>I pre W∧Rec w.heap.size (R .ready none) W) (fun pre W=>∃c,Ix c pre W∧Rec w.heap.size (R .done (some c)) W) W1 b0
  (fun s A B row h1 h2 h3=>⟨hI s A B row h1.1 h2 (walk_from s0 h3),h1.2.grown h2 fun x e=>(h3 x e).2⟩)
  (fun s A B row ⟨c,h1,h4⟩ h2 h3=>⟨c,hIx c s A B row h1 h2 (walk_from s0 h3),h4.grown h2 fun x e=>(h3 x e).2⟩) ⟨i0,r0⟩ ?_).mono ?_
 ·rintro pre x W ⟨hi,hrec⟩ hel hlen;have hy:=run_yield (P:=P) (args:=enc x) hrec.1 (by rw[hR];exact hps x);rw[hR]at hy;refine⟨fn,_,assign,body,hy,roundIn_of_wpIn hfn (hassign _ pre x W _ hi hel fun a' Wa hk1 hp1 hi1 hax=> ?_)⟩;have hra:=hrec.keep hk1;have hrb:=hra.put (R .busy none);have hbeg:=run_beginRound (P:=P) hra.1 (st _ _);rw[busy]at hbeg;have hpb:=hKb Wa _ _ (.loop (R .busy none)) (Nat.le_succ w.heap.size) hra.1 rfl rfl;have hib:=hI.putObj (.loop (R .busy none)) hi1 (Nat.le_succ w.heap.size) hra.1 rfl;have hab:=(hAx pre x a').putObj (s:=()) (.loop (R .busy none)) hax (Nat.le_succ w.heap.size) hra.1 rfl;refine⟨_,hbeg,wpIn_mono (hbody _ pre x a' _ hib hab hlen) ?_⟩;have fin:∀(c:Option Code) (W3:World),KeepsFrom w.heap.size (Wa.putObj (w.heap.size+1) (.loop (R .busy none))) W3→
    Rec w.heap.size (R .busy none) W3∧(Instr.endRound (w.heap.size+1) c).run P W3=.ok (.bool c.isNone) (W3.putObj (w.heap.size+1) (.loop (R (if c.isNone then .ready else .done) c))):=fun c W3 hk3=>by
   have h3:=hrb.keep hk3;have h4:=run_endRound (P:=P) c h3.1;rw[ended]at h4;exact⟨h3,h4⟩
  have out:∀(c:Code) (W3:World),KeepsFrom w.heap.size (Wa.putObj (w.heap.size+1) (.loop (R .busy none))) W3→Ix c (pre++[x]) W3→∃v w',(Instr.endRound (w.heap.size+1) (some c)).run P W3=.ok v w'∧
    ((Ending.returned v=.returned (.bool true)∧(I (pre++[x]) w'∧Rec w.heap.size (R .ready none) w')∧Kp W w')∨(Ending.returned v=.returned (.bool false)∧∃c',Ix c' (pre++[x]) w'∧Rec w.heap.size (R .done (some c')) w')):=fun c W3 hk3 hx3=>by
   obtain⟨h3,h4⟩:=fin (some c) W3 hk3;exact⟨_,_,h4,.inr ⟨rfl,c,(hIx c).putObj _ hx3 (Nat.le_succ _) h3.1 rfl,h3.put _⟩⟩
  rintro e a3 W3 hp;cases e with
  |normal=>
   obtain⟨hk3,hp3,hi3⟩:=hp;obtain⟨h3,h4⟩:=fin none W3 hk3;exact⟨_,_,h4,.inl ⟨rfl,⟨hI.putObj _ hi3 (Nat.le_succ _) h3.1 rfl,h3.put _⟩,hKt hp1 (hKt (hKt hpb hp3) (hKb _ _ _ _ (Nat.le_succ _) h3.1 rfl rfl))⟩⟩
  |ret=>exact out .ret W3 hp.1 hp.2
  |exit id=>exact out (.exit id) W3 hp.1 hp.2
  |goto t=>exact out (.goto t) W3 hp.1 hp.2
  |panic _=>exact hp.elim
  |outgrown=>exact hp.elim
 ·rintro e W2 ⟨⟨v,rfl⟩,h⟩;have off:∀ {s c},s≠ .busy→Rec w.heap.size (R s c) W2→(Instr.endLoop (w.heap.size+1)).run P W2=.ok c (W2.putObj (w.heap.size+1) (.loop (R .exhausted c))):=fun {s c} hs hr=>by
   have:=run_endLoop (P:=P) hr.1 (by rw[st];exact hs);rw[busy]at this;rw[this,hR]
  rcases h with⟨xs,hS,hi,hr⟩|⟨pre,hS,c,hi,hr⟩
  ·exact⟨none,_,off (by simp) hr,hdone _ xs _ (Nat.le_refl _) hS (hI.putObj _ hi (Nat.le_succ _) hr.1 rfl) (hr.put _).2⟩
  ·exact⟨some c,_,off (by simp) hr,hstop _ c pre _ (Nat.le_refl _) hS ((hIx c).putObj _ hi (Nat.le_succ _) hr.1 rfl) (hr.put _).2⟩
theorem wpIn_rangeFunc_at {α:Type} {g:Operand} {ps:Array Tmp} {assign body:Code} {Q:Exit→Act→World→Prop} {a:Act} {w:World}
  (hro:F.round=none) (hn:1≤n) {gf:Nat} {lb:Array Value} (hg:a.eval g=.func (.func gf) #[] lb) (hF:F.fn gf) (he:∀args w,(callFunc gf args).run P w=.ok (.enter gf args) w)
  {enc:α→Array Value} {El:List α→α→World→Prop} {Kp:World→World→Prop} {S Sp:List α→Prop} {N:Nat} {w0:World} (hseq:SeqSays F (n-1) P gf lb enc El Kp S Sp N w0) (hb0:Below w0.heap.size w0 w) (hps:∀x,(enc x).size=ps.size)
  (hKt:∀ {A B C:World},Kp A B→Kp B C→Kp A C) (hKb:∀(W:World) (l:Nat) (o o':Obj),w.heap.size≤l→W.heap[l]? =some o→o.isCells=false→o.isWalk=false→Kp W (W.putObj l o'))
  (I:List α→World→Prop) (Ix:Code→List α→World→Prop) (hI:OwnFrom w.heap.size I) (hIx:∀c,OwnFrom w.heap.size (Ix c)) (h0:I [] w)
  (fr:Array Value→α→Nat→Array Value) (Px:List α→α→Nat→World→Prop) (hPx:∀pre x r,OwnFrom w.heap.size (fun(_:Unit) W=>Px pre x r W))
  (hassign:∀(l:Nat) (pre:List α) (x:α) (W:World) (K:Act→World→Prop),I pre W→El pre x W→(∀r W',KeepsFrom w.heap.size W W'→Kp W W'→I pre W'→Px pre x r W'→K {tmps:=fr a.tmps x r,defers:=[]} W')→
   assign.wpIn (F.inRound l) (n-1-1) P (Exit.then K (fun _ _ _=>False)) {tmps:=(ps.zip (enc x)).foldl (fun t (p,v)=>t.setIfInBounds p v) a.tmps,defers:=[]} W)
  (hbody:∀(l:Nat) (pre:List α) (x:α) (r:Nat) (W:World),I pre W→Px pre x r W→pre.length<N→body.wpIn (F.inRound l) (n-1-1) P (ownPostG w.heap.size Kp I Ix (pre++[x]) W) {tmps:=fr a.tmps x r,defers:=[]} W)
  (hdone:∀(D:Nat) (xs:List α) (W:World),w.heap.size≤D→S xs→I xs W→W.heap[D]? =some (.deferred (some []))→Q .normal {a with defers:={target:=.collected D,args:=#[]}::a.defers} W)
  (hstop:∀(D:Nat) (c:Code) (pre:List α) (W:World),w.heap.size≤D→Sp pre→Ix c pre W→W.heap[D]? =some (.deferred (some []))→c.wpIn F n P Q {a with defers:={target:=.collected D,args:=#[]}::a.defers} W):
  (Code.rangeFunc g ps assign body).wpIn F n P Q a w:=
 wpIn_rangeFunc_says hro hn hg hF he hseq hb0 hps hKt hKb I Ix hI hIx h0 (fun pre x a' W=>∃r,a'={tmps:=fr a.tmps x r,defers:=[]}∧Px pre x r W)
  (fun pre x _ s A B row ⟨r,h1,h2⟩ hg hr=>⟨r,h1,hPx pre x r s A B row h2 hg hr⟩)
  (fun l pre x W K h1 h2 hK=>hassign l pre x W K h1 h2 fun r _ k1 k2 k3 k4=>hK _ _ k1 k2 k3 ⟨r,rfl,k4⟩)
  (fun l pre x _ W h1 ⟨r,h2,h3⟩ h4=>h2▸hbody l pre x r W h1 h3 h4) hdone hstop
end Stg
end Go
namespace Go.Proofs.YteidpgdfocjdbaaGreat.Bw
open Go Go.RowKit Go.Stg
attribute [local go_sem] Oper.semAt_some
def MapV (w:World) (mv:Value) (bs:List Bor):Prop:=(mv=.map none∧bs=[])∨∃mb,mv=.map (some mb)∧MapIs w mb bs
def IterV (w:World) (r:Nat) (mv:Value) (rest:List Bor):Prop:=(mv=.map none∧rest=[]∧w.heap[r]? =some (.mapIter none 0 #[] 0))∨∃mb,mv=.map (some mb)∧r≠mb∧IterAt w r mb rest
def mapBlk:Value→Option Nat
 | .map m=>m
 |_=>none
theorem MapV.keep {w w':World} {mv:Value} {bs:List Bor} (h:MapV w mv bs) (hk:∀mb,mapBlk mv=some mb→w'.heap[mb]? =w.heap[mb]?):MapV w' mv bs:=by
 rcases h with h|⟨mb,rfl,es,c,h1,h2⟩
 ·exact .inl h
 ·exact .inr ⟨mb,rfl,es,c,(hk mb rfl).trans h1,h2⟩
theorem MapV.lt {w:World} {mv:Value} {bs:List Bor} (h:MapV w mv bs):∀mb,mapBlk mv=some mb→mb<w.heap.size:=by
 rcases h with⟨rfl,_⟩|⟨mb,rfl,es,c,h1,h2⟩
 ·intro mb h;cases h
 ·intro mb' h;cases h;exact lt_of h1
theorem IterV.walk {w:World} {r:Nat} {mv:Value} {rest:List Bor} (h:IterV w r mv rest):∃o:Obj,w.heap[r]? =some o∧o.isWalk=true:=by
 rcases h with⟨_,_,h⟩|⟨_,_,_,_,_,_,_,_,_,h,_⟩
 ·exact⟨_,h,rfl⟩
 ·exact⟨_,h,rfl⟩
theorem IterV.same {w w':World} {r:Nat} {mv:Value} {rest:List Bor} (h:IterV w r mv rest) (h1:∀mb,mapBlk mv=some mb→w'.heap[mb]? =w.heap[mb]?) (h2:w'.heap[r]? =w.heap[r]?):IterV w' r mv rest:=by
 rcases h with⟨e,f,h⟩|⟨mb,e,hr,h⟩
 ·exact .inl ⟨e,f,h2.trans h⟩
 ·subst e;exact .inr ⟨mb,rfl,hr,h.same (h1 mb rfl) h2⟩
theorem range_v {w:World} {mv:Value} {bs:List Bor} (h:MapV w mv bs):∃ob,(Instr.range 136 mv).run Tryz.prog w=.ok (.pointer (some ⟨w.heap.size,0,none⟩)) (w.alloc ob)∧IterV (w.alloc ob) w.heap.size mv bs:=by
 rcases h with⟨rfl,rfl⟩|⟨mb,rfl,h⟩
 ·refine⟨_,?_,.inl ⟨rfl,rfl,at_alloc _ _⟩⟩;unfold Instr.range;simp[run_underlying Tryz.underlying136]
 ·obtain⟨c,h1,h2⟩:=range_b h;refine⟨_,h1,.inr ⟨mb,rfl,?_,h2⟩⟩;obtain⟨es,c,h1,_⟩:=h;have:=lt_of h1;omega
def leftN (w:World) (r:Nat):Nat:=match w.heap[r]? with
 |some (.mapIter (some m) _ seen _)=>match w.heap[m]? with
  |some (.map es _)=>(es.toList.filter fun e=> !seen.contains e.born).length
  |_=>0
 |_=>0
theorem IterV.left {w:World} {r:Nat} {mv:Value} {rest:List Bor} (h:IterV w r mv rest):leftN w r=rest.length:=by
 rcases h with⟨_,rfl,h⟩|⟨mb,_,_,es,c,seen,h1,_,_,h2,h3⟩
 ·unfold leftN;rw[h];rfl
 ·unfold leftN;rw[h2];simp only[h1];exact h3.length
theorem next_over_v {w:World} {r:Nat} {mv:Value} (h:IterV w r mv []) (ty:TypeId):∃w',(Instr.next (.pointer (some ⟨r,0,none⟩)) false ty).run Tryz.prog w=.ok (.tuple #[.bool false]) w'∧Mod [] w w':=by
 rcases h with⟨_,_,h⟩|⟨mb,_,_,h⟩
 ·refine⟨w,?_,Mod.refl _ _⟩;unfold Instr.next;simp[getObj,Sem.run,h,Sem.run_bind]
 ·exact next_over h ty
theorem next_some_v {w:World} {r:Nat} {mv:Value} {rest:List Bor} (h:IterV w r mv rest) (hne:rest≠ []) (ty:TypeId):∃(i:Nat) (b:Bor) (w':World),rest[i]? =some b∧(Instr.next (.pointer (some ⟨r,0,none⟩)) false ty).run Tryz.prog w=.ok (.tuple #[.bool true,kv b.1,bv b]) w'∧IterV w' r mv (rest.eraseIdx i)∧Mod [r] w w'∧w'.heap.size=w.heap.size∧(Instr.entry (.pointer (some ⟨r,0,none⟩))).run Tryz.prog w'=.ok (.tuple #[kv b.1,bv b]) w':=by
 rcases h with⟨_,rfl,_⟩|⟨mb,e,hr,h⟩
 ·exact absurd rfl hne
 ·obtain⟨i,b,w',h1,h2,h3,h4⟩:=next_some h hne hr ty;exact⟨i,b,w',h1,h2,.inr ⟨mb,e,hr,h3⟩,h4⟩
theorem values_made (mv:Value) (hmv:∃m,mv=.map m) (w:World):Calls Tryz.prog 154 #[mv] w fun e w'=>e=.returned (.func (.func 159) #[] #[.pointer (some ⟨w.heap.size,0,none⟩)])∧w'=w.alloc (.cells #[mv] 136):=by
 obtain⟨m,rfl⟩:=hmv;go_enter Tryz.func154,Tryz.ntmps154;go_wp2;go_ret;exact⟨rfl,rfl⟩
theorem grown_mod {a b:World} (h:Mod [] a b) {row:Option Nat}:a.grownBy b row:=
 let hb:=h.below;⟨hb.os,hb.tape,hb.output,hb.size,fun k hk _=>hb.block k hk⟩
def KpV (n₀:Nat) (V V':World):Prop:=RowKit.Below n₀ V V'∧KeepsWalks V V'
theorem perm_take {bs pre rest:List Bor} {i:Nat} {b:Bor} (h:bs.Perm (pre++rest)) (hb:rest[i]? =some b):bs.Perm ((pre++[b])++rest.eraseIdx i):=by
 obtain⟨hi,rfl⟩:=List.getElem?_eq_some_iff.1 hb;refine h.trans ?_;rw[List.append_assoc];refine List.Perm.append_left pre ?_;have e:rest=rest.take i++rest[i]::rest.drop (i+1):=by rw[List.getElem_cons_drop,List.take_append_drop]
 rw[List.eraseIdx_eq_take_drop_succ];conv=>lhs;rw[e]
 exact List.perm_middle
theorem valuesC_in (n':Nat) (hn':1≤n') (l Bs n₀:Nat) {mv:Value} {bs:List Bor} (J Jx:List Bor→World→Prop) (w0 W:World) (h0:n₀≤w0.heap.size) (hR:MapV w0 mv bs) (hf:∀mb,mapBlk mv=some mb→mb<n₀) (hW:RowKit.Below w0.heap.size w0 W)
  (hBs:w0.heap[Bs]? =some (.cells #[mv] 136 (0,0))) (hJ:AbidesFrom W.heap.size J) (h00:J [] W)
  (hY:∀pre x V,J pre V→pre.length<bs.length→YieldAt Fence.wide (n'-1) Tryz.prog l #[bv x] V fun e V'=>
   (e=.returned (.bool true)∧J (pre++[x]) V'∧KpV n₀ V V')∨(e=.returned (.bool false)∧Jx (pre++[x]) V')):
  CallsIn Fence.wide n' Tryz.prog 159 #[.func (.yield l) #[] #[],.pointer (some ⟨Bs,0,none⟩)] W fun e V=>(∃v,e=.returned v)∧((∃xs,xs.Perm bs∧J xs V)∨(∃pre:List Bor,True∧Jx pre V)):=by
 have hMW:MapV W mv bs:=hR.keep fun mb h=>(hW.block mb (by have:=hf mb h;omega))
 have hcl:=(Mod.of_below hW).at hBs (by simp);have hcc:=cells_of hcl;have hmm:∃m,mv=.map m:=by rcases hR with⟨rfl,_⟩|⟨mb,rfl,_⟩<;>exact⟨_,rfl⟩
 obtain⟨m,rfl⟩:=hmm;obtain⟨ob,hr1,hr2⟩:=range_v hMW;have hWsz:=hW.size;have hr2H:=Lib.hid hr2;have hJH:=Lib.hid hJ;have hYH:=Lib.hid hY;have h00H:=Lib.hid h00;have hRH:=Lib.hid hR;have hW1H:=Lib.hid hW;have hfH:=Lib.hid hf;clear hW hBs hJ h00 hY hcl hR hMW hr2 hf;refine callsIn_of_wp Tryz.func159 rfl trivial ?_ rfl;simp only[Tryz.ntmps159,List.size_toArray,List.length_cons,List.length_nil,Nat.reduceAdd,Nat.reduceSub,Array.replicate_succ,Array.replicate_zero,List.push_toArray,List.append_toArray,List.nil_append,List.cons_append];gi_wp2_with fail;have hM0:=(Mod.refl [] W).alloc ob;have hJ0:=Lib.hid (hJH.out _ _ _ none h00H.out (World.grownBy_alloc W ob none) (by simp));have hsz0:(W.alloc ob).heap.size=W.heap.size+1:=by simp
 have hB0:RowKit.Below n₀ w0 (W.alloc ob):=(hW1H.out.mono h0).trans (hM0.below.mono (Nat.le_trans h0 hWsz));have hB0H:=Lib.hid hB0;clear hr1 hM0 hB0 hcc h00H;generalize W.alloc ob=W1 at*;generalize hr:W.heap.size=r at*
 gi_loopw [4] (fun _ wr=>∃pre rest:List Bor,IterV wr r (.map m) rest∧bs.Perm (pre++rest)∧J pre wr∧RowKit.Below n₀ w0 wr∧r<wr.heap.size) (fun _ wr=>leftN wr r)
 case atStart=>exact⟨[],bs,hr2H.out,by simp,hJ0.out,hB0H.out,by omega⟩
 case round=>
  obtain⟨pre,rest,hit,hp,hJr,hBr,hsz⟩:=hrel;have hpH:=Lib.hid hp;have hJrH:=Lib.hid hJr;have hBrH:=Lib.hid hBr;have hitH:=Lib.hid hit;clear hp hJr hBr hJ0 hB0H hr2H;by_cases hne:rest=[]
  ·subst hne;obtain⟨w2,hn1,hn2⟩:=next_over_v hit (0:Nat);clear hit;have hJ2:=hJH.out _ _ _ none hJrH.out (grown_mod hn2) (by simp);have hJ2H:=Lib.hid hJ2;clear hJ2 hn2
   gi_wp2_with fail
   go_end0;exact⟨⟨_,rfl⟩,.inl ⟨pre,by have:=hpH.out;rw[List.append_nil]at this;exact this.symm,hJ2H.out⟩⟩
  ·obtain⟨i,b,w2,hbi,hn1,hit2,hn2,hs2,hen⟩:=next_some_v hit hne (0:Nat);have hwk:=hit.walk;have hg2:wr.grownBy w2 (some r):=⟨hn2.os,hn2.tape,hn2.output,hn2.size,fun k hk hk2=>hn2.block k hk (by simpa using fun e=>hk2 (by rw[e]))⟩;have hJ2:=hJH.out _ _ _ (some r) hJrH.out hg2 (fun r' e=>by cases e;exact⟨Nat.le_refl _,hwk⟩);have hJ3:=hJH.out _ _ _ none hJ2 (World.grownBy_alloc w2 (.cells #[.int .i64 b.1.1,.int .i64 b.1.2,.int .i64 b.2.1,.int .i64 b.2.2] 130) none) (by simp);have hB2:RowKit.Below n₀ wr w2:=⟨hn2.os,hn2.tape,hn2.output,hn2.size,fun k hk=>hn2.block k (by omega) (by simp;omega)⟩;have hB3:=hBrH.out.trans (hB2.trans ((RowKit.Below.refl n₀ w2).alloc (by omega) (.cells #[.int .i64 b.1.1,.int .i64 b.1.2,.int .i64 b.2.1,.int .i64 b.2.2] 130)));have hit3:IterV (w2.alloc (.cells #[.int .i64 b.1.1,.int .i64 b.1.2,.int .i64 b.2.1,.int .i64 b.2.2] 130)) r (.map m) (rest.eraseIdx i):=hit2.same (fun mb hmb=>RowKit.Below.heap_alloc _ _ _ (by have:=hfH.out mb hmb;omega)) (RowKit.Below.heap_alloc _ _ _ (by omega));have hp2:=perm_take hpH.out hbi;have hlen:pre.length<bs.length:=by have:=hp2.length_eq;simp at this;omega
   have hlr:leftN wr r=rest.length:=hit.left;have hil:i<rest.length:=(List.getElem?_eq_some_iff.1 hbi).1;have hYx:=hYH.out pre b _ hJ3 hlen;have hsz3:(w2.alloc (.cells #[.int .i64 b.1.1,.int .i64 b.1.2,.int .i64 b.2.1,.int .i64 b.2.2] 130)).heap.size=wr.heap.size+1:=by simp[hs2]
   have hB3H:=Lib.hid hB3;have hit3H:=Lib.hid hit3;have hp2H:=Lib.hid hp2;have hlrH:=Lib.hid hlr;obtain⟨fn,tmps,assign,body,hy,hR⟩:=hYx;unfold bv at hy hn1 hen;clear hit hJ2 hJ3 hB2 hB3 hit3 hp2 hbi hit2 hn2 hg2 hwk hlen hlr hitH hJrH hpH hBrH
   gi_wp2_with fail
   refine hR.mono ?_;rintro e W3 (⟨rfl,hJ4,hk4,hk5⟩|⟨rfl,hJx4⟩)
   ·have hit4:=hit3H.out.same (fun mb hmb=>hk4.block mb (by have:=hfH.out mb hmb;omega)) (by obtain⟨o,h1,h2⟩:=hit3H.out.walk;rw[h1,hk5.same r o h1 h2]);have hit4H:=Lib.hid hit4;have hB4H:=Lib.hid (hB3H.out.trans hk4);have hJ4H:=Lib.hid hJ4;have hsz4:=hk5.size;clear hit4 hk4 hk5 hJ4
    gi_wp2_with fail
    go_roundw
    case rel=>exact⟨pre++[b],rest.eraseIdx i,hit4H.out,hp2H.out,hJ4H.out,hB4H.out,by omega⟩
    case measure=>rw[hit4H.out.left,hlrH.out,List.length_eraseIdx];simp[hil];omega
   ·gi_wp2_with fail
    refine bodyPost_ret (results_none rfl _ _ _) rfl ?_;exact⟨⟨_,rfl⟩,.inr ⟨_,trivial,hJx4⟩⟩
theorem values_says (n':Nat) (hn':1≤n') (Bs n₀:Nat) {mv:Value} {bs:List Bor} (w0:World) (h0:n₀≤w0.heap.size) (hR:MapV w0 mv bs) (hf:∀mb,mapBlk mv=some mb→mb<n₀)
  (hBs:w0.heap[Bs]? =some (.cells #[mv] 136 (0,0))):
  SeqSays Fence.wide n' Tryz.prog 159 #[.pointer (some ⟨Bs,0,none⟩)] (fun b:Bor=>#[bv b]) (fun _ _ _=>True) (KpV n₀) (fun ys=>ys.Perm bs) (fun _=>True) bs.length w0:=fun l J Jx W hW hJ _ h00 hY=>
 valuesC_in n' hn' l Bs n₀ J Jx w0 W h0 hR hf hW hBs hJ h00 fun pre x V h1 h2=>hY pre x V h1 trivial h2
end Go.Proofs.YteidpgdfocjdbaaGreat.Bw
namespace Go.Proofs.YteidpgdfocjdbaaGreat.Bw
open Go Go.RowKit Go.Stg Go.Sort Go.Proofs
theorem bcell_length (b:Bor):(bcell b).length=4:=rfl
theorem flatK_at (d:Array Bor) (i:Nat) (hi:i<d.size*4):(flat bcell d.toList)[i]? =some ((flatK bcell 4 d)[i]!):=by
 have hq:i/4<d.size:=by omega
 have h1:=flat_at bcell_length d.toList (i/4) (i%4) (by simpa using hq) (Nat.mod_lt _ (by omega));rw[Nat.div_add_mod']at h1;rw[h1,get_flatK bcell 4 d i hi];have e:d[i/4]! =d.toList[i/4]'(by simpa using hq):=by rw[getElem!_pos d (i/4) hq];simp
 rw[e];have hr:i%4<(bcell (d.toList[i/4]'(by simpa using hq))).length:=by rw[bcell_length];exact Nat.mod_lt _ (by omega)
 rw[List.getElem?_eq_getElem hr,getElem!_pos (bcell (d.toList[i/4]'(by simpa using hq))) (i%4) hr]
theorem holds_own {w:World} {base:Nat} {e:TypeId} {g n cap:Nat} {L:List Bor} (h:w.ownsRow base e 4 (.slice (some ⟨g,0,none⟩) n cap) n (flat bcell L)) (hL:L.length=n):HoldsK bcell 4 w g 0 L.toArray:=by
 intro j hj;have hj':j<L.length*4:=by simpa using hj
 rw[Nat.zero_add];refine⟨?_,h.frozenAt j⟩;rw[h.cellAt j (by omega)];have:=flatK_at L.toArray j (by simpa using hj');simpa using this
theorem own_sorted {w:World} {base:Nat} {e:TypeId} {g n cap:Nat} {L:List Bor} (h:w.ownsRow base e 4 (.slice (some ⟨g,0,none⟩) n cap) n (flat bcell L)) (d':Array Bor) (hd:d'.size=n) (m:Nat) (os:Array Obj):
  (sortWorldK bcell 4 w g 0 m d' os).ownsRow base e 4 (.slice (some ⟨g,0,none⟩) n cap) n (flat bcell d'.toList)∧Mod [g] w (sortWorldK bcell 4 w g 0 m d' os):=by
 rcases h.2 with⟨h,_⟩|⟨g',cap',cur,hv,h1,h2,h3,h4,h5,h6⟩
 ·simp at h
 ·simp at hv;obtain⟨rfl,rfl⟩:=hv;have hg:=lt_of h2;have hb:(sortWorldK bcell 4 w g 0 m d' os).heap[g]? =some (.cells (putCells id 0 (flatK bcell 4 d') cur) e (0,0)):=by
   unfold sortWorldK;rw[heap_grow_old _ _ (by simpa[putRowK]using hg)];simp[putRowK,putRow,mapBlock,Sort.ahead,Array.getElem?_modify,h2,onCells]
  refine⟨⟨by rw[flat_length bcell_length];simp[hd],.inr ⟨g,cap,_,rfl,h1,hb,h3,h4,by simp[putCells,h5],?_⟩⟩,⟨rfl,rfl,rfl,?_,fun k hk hkg=> ?_⟩⟩
  ·apply List.ext_getElem?;intro i;by_cases hi:i<n*4
   ·have hic:i<cur.size:=by rw[h5];have:=Nat.mul_le_mul_right 4 h3;omega
    rw[List.getElem?_take_of_lt hi,flatK_at d' i (by rw[hd];exact hi),Array.getElem?_toList];unfold putCells;rw[Array.getElem?_mapIdx,Array.getElem?_eq_getElem hic];simp[hd,hi]
   ·rw[List.getElem?_eq_none (by simp;omega),List.getElem?_eq_none (by rw[flat_length bcell_length];simp[hd];omega)]
  ·unfold sortWorldK grow;simp[putRowK]
  ·unfold sortWorldK;rw[heap_grow_old _ _ (by simpa[putRowK]using hk)];have hne:g≠k:=fun e=>hkg (by simp[e])
   simp[putRowK,putRow,mapBlock,Sort.ahead,Array.getElem?_modify,hne]
def cmpI (x y:Int):Int:=if x<y then -1 else if y<x then 1 else 0
def cf (a b:Bor):Int:=if cmpI a.1.1 b.1.1≠0 then cmpI a.1.1 b.1.1 else cmpI a.1.2 b.1.2
theorem ltOf_cf (a b:Bor):ltOf cf a b=klt a.1 b.1:=by
 unfold ltOf cf cmpI klt;by_cases h1:a.1.1<b.1.1
 ·simp[h1]
 ·by_cases h2:b.1.1<a.1.1
  ·have:¬a.1.1=b.1.1:=by omega
   simp[h2,this,h1]
  ·have:a.1.1=b.1.1:=by omega
   simp[this];by_cases h3:a.1.2<b.1.2
   ·simp[h3]
   ·by_cases h4:b.1.2<a.1.2<;>simp[h3,h4]
theorem swo_cf:SWO (ltOf cf) where
 irrefl x:=by rw[ltOf_cf];exact klt_irrefl _
 trans x y z h1 h2:=by rw[ltOf_cf]at*;exact klt_trans h1 h2
 ntrans x y z h1 h2:=by
  rw[ltOf_cf]at*;simp only[klt,Bool.or_eq_false_iff,Bool.and_eq_false_iff,decide_eq_false_iff_not]at*;omega
theorem sorted_srt {d d':Array Bor} (hn:(d.toList.map (·.1)).Nodup) (hp:PermIn 0 d.size d d') (hs:SortedIn (ltOf cf) 0 d.size d'):Srt d'.toList∧d'.toList.Perm d.toList∧d'.size=d.size:=by
 obtain⟨h1,_,h3⟩:=hp;have hp':d'.toList.Perm d.toList:=by
  have e1:d'.extract 0 d.size=d':=by rw[←h1,Array.extract_size]
  have e2:d.extract 0 d.size=d:=Array.extract_size
  rwa [e1,e2]at h3
 refine⟨?_,hp',h1⟩;have hn':(d'.toList.map (·.1)).Nodup:=((hp'.map _).nodup_iff).2 hn;unfold Srt;rw[List.pairwise_iff_getElem];intro i j hi hj hij;have hi':i<d'.size:=by simpa using hi
 have hj':j<d'.size:=by simpa using hj
 have hs':=hs i j (Nat.zero_le _) hij (by omega);rw[getElem!_pos d' i hi',getElem!_pos d' j hj',ltOf_cf]at hs';have hne:d'[j].1≠d'[i].1:=by
  rw[List.Nodup,List.pairwise_map,List.pairwise_iff_getElem]at hn';have:=hn' i j hi hj hij;simp only[Array.getElem_toList]at this;exact fun e=>this e.symm
 have:=klt_total hne hs';simpa using this
end Go.Proofs.YteidpgdfocjdbaaGreat.Bw
