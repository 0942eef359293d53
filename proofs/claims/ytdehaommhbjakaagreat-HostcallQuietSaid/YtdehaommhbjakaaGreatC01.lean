/- Joined contracts. No conditions. -/
import Derived.Maps.Own
import Derived.Test.YtdehaommhbjakaaGreatC00
namespace Go
namespace Stg
structure Mod (S:List Nat) (w w':World):Prop where
 os:w'.os=w.os
 tape:w'.tape=w.tape
 output:w'.output=w.output
 size:w.heap.size≤w'.heap.size
 block:∀k,k<w.heap.size→k∉S→w'.heap[k]? =w.heap[k]?
theorem Mod.refl (S:List Nat) (w:World):Mod S w w:=⟨rfl,rfl,rfl,Nat.le_refl _,fun _ _ _=>rfl⟩
theorem Mod.mono {S T:List Nat} {w w':World} (h:Mod S w w') (hS:∀k,k∈S→k∈T):Mod T w w':=
 ⟨h.os,h.tape,h.output,h.size,fun k hk hn=>h.block k hk (fun x=>hn (hS k x))⟩
theorem Mod.then {S T:List Nat} {a b c:World} (h:Mod S a b) (k:Mod T b c) (hT:∀x,x∈T→x∈S∨a.heap.size≤x):Mod S a c:=
 ⟨k.os.trans h.os,k.tape.trans h.tape,k.output.trans h.output,Nat.le_trans h.size k.size,fun i hi hn=>
  (k.block i (Nat.lt_of_lt_of_le hi h.size) (fun x=>(hT i x).elim hn (fun y=>absurd hi (Nat.not_lt.2 y)))).trans (h.block i hi hn)⟩
theorem Mod.trans {S:List Nat} {a b c:World} (h:Mod S a b) (k:Mod S b c):Mod S a c:=h.then k fun _ hx=>.inl hx
theorem Mod.ag {S:List Nat} {a b c:World} (h:Mod S a b) (k:Mod [] b c):Mod S a c:=h.then k (by simp)
theorem Mod.drew {S:List Nat} {a w:World} (h:Mod S a w):Mod S a w.drew:=⟨h.os,h.tape,h.output,h.size,h.block⟩
theorem Mod.drewN {S:List Nat} {a w:World} (h:Mod S a w) (n:Nat):Mod S a (w.drewN n):=⟨h.os,h.tape,h.output,h.size,h.block⟩
theorem Mod.alloc {S:List Nat} {a w:World} (h:Mod S a w) (o:Obj):Mod S a (w.alloc o):=
 h.ag ⟨rfl,rfl,rfl,by simp,fun _ hk _=>RowKit.Below.heap_alloc _ _ _ hk⟩
theorem Mod.setCell {S:List Nat} {a w:World} (h:Mod S a w) {p:Addr} (hp:p.block∈S∨a.heap.size≤p.block) (u:Value):Mod S a (w.setCell p u):=
 h.then (T:=[p.block]) ⟨rfl,rfl,rfl,by simp[World.setCell],fun k _ hn=>RowKit.Below.heap_setCell _ _ _ _ (by simpa using hn)⟩ (by simpa using hp)
theorem Mod.grown {S:List Nat} {a w w':World} {row:Option Nat} (h:Mod S a w) (hg:w.grownBy w' row) (hr:∀k,row=some k→k∈S∨a.heap.size≤k):Mod S a w':=
 h.then (T:=row.toList) ⟨hg.os,hg.tape,hg.output,hg.size,fun k hk hn=>hg.block k hk (fun e=>hn (by simp[←e]))⟩ (fun x hx=>hr x (by simpa using hx))
theorem Mod.below {a w:World} (h:Mod [] a w):RowKit.Below a.heap.size a w:=⟨h.os,h.tape,h.output,h.size,fun k hk=>h.block k hk (by simp)⟩
theorem Mod.lB {a w:World} (h:RowKit.Below a.heap.size a w):Mod [] a w:=⟨h.os,h.tape,h.output,h.size,fun k hk _=>h.block k hk⟩
theorem aL {w:World} {b:Nat} {o:Obj} (h:w.heap[b]? =some o):b<w.heap.size:=(Array.getElem?_eq_some_iff.1 h).1
theorem Mod.at {S:List Nat} {a w:World} {b:Nat} {o:Obj} (h:Mod S a w) (hb:a.heap[b]? =some o) (hS:b∉S):w.heap[b]? =some o:=
 (h.block b (aL hb) hS).trans hb
theorem Mod.lt {S:List Nat} {a w:World} {b:Nat} (h:Mod S a w) (hb:b<a.heap.size):b<w.heap.size:=Nat.lt_of_lt_of_le hb h.size
theorem Mod.gt {S:List Nat} {a w:World} {o:Obj} (h:Mod S (a.alloc o) w):a.heap.size<w.heap.size:=by
 have:=h.size;simp at this;omega
theorem ae {w:World} {b:Nat} {cs:Array Value} {T:TypeId} {fr:Nat×Nat} (h:w.heap[b]? =some (.cells cs T fr)):∀o,w.cell? ⟨b,o,none⟩=cs[o]? :=by
 intro o;simp[World.cell?,h]
theorem ay {w:World} {b:Nat} {cs:Array Value} {T:TypeId} (h:w.heap[b]? =some (.cells cs T (0,0))):∀o,w.frozen? ⟨b,o,none⟩=false:=by
 intro o;simp[World.frozen?,h]
theorem an (w:World) (o:Obj):(w.alloc o).heap[w.heap.size]? =some o:=by
 show(w.heap.push o)[w.heap.size]? =_;simp
theorem aI {w:World} {o o':Obj} {b:Nat} (h:w.heap[b]? =some o'):(w.alloc o).heap[b]? =some o':=
 (RowKit.Below.heap_alloc _ _ _ (aL h)).trans h
theorem aq {w:World} {b o:Nat} {cs:Array Value} {T:TypeId} {fr:Nat×Nat} {v:Value} (h:w.heap[b]? =some (.cells cs T fr)):
  (w.setCell ⟨b,o,none⟩ v).heap[b]? =some (.cells (cs.setIfInBounds o v) T fr):=by
 simp[World.setCell,Array.getElem?_modify,h]
theorem dI {w:World} {a:Addr} {v:Value} {b:Nat} {o:Obj} (h:w.heap[b]? =some o) (hne:b≠a.block):(w.setCell a v).heap[b]? =some o:=
 (RowKit.Below.heap_setCell _ _ _ _ hne).trans h
def GW (S:List Nat) (W:World):Type:={w:World//Mod S W w}
instance GW.inst (S:List Nat) (W:World):Nonempty (GW S W):=⟨⟨W,Mod.refl S W⟩⟩
def ah (S:List Nat) (W w:World):Prop:=∃x:GW S W,w=x.1
theorem ah.of {S:List Nat} {W w:World} (h:Mod S W w):∃x:GW S W,w=x.1:=⟨⟨w,h⟩,rfl⟩
theorem GW.at {S:List Nat} {W:World} {b:Nat} {o:Obj} (h:W.heap[b]? =some o) (hb:b∉S) (x:GW S W):x.1.heap[b]? =some o:=x.2.at h hb
theorem GW.cells {S:List Nat} {W:World} {b:Nat} {cs:Array Value} {T:TypeId} {fr:Nat×Nat} (h:W.heap[b]? =some (.cells cs T fr)) (hb:b∉S):∀(x:GW S W) o,x.1.cell? ⟨b,o,none⟩=cs[o]? :=
 fun x=>ae (GW.at h hb x)
theorem GW.bR {S:List Nat} {W:World} {b o:Nat} {v:Value} (h:W.cell? ⟨b,o,none⟩=some v) (hlt:b<W.heap.size) (hS:b∉S):∀x:GW S W,x.1.cell? ⟨b,o,none⟩=some v:=
 fun x=>(World.cell?_of_block (a:=⟨b,o,none⟩) (x.2.block b hlt hS)).trans h
section
variable {P:Program} {ops:Array Oper} {I:World→Prop} {Out:Prop} {Q:Act→World→Prop}
theorem Ao (n:Nat) {l:List Oper} {C:World→Prop} {a:Act} (hno:(l.take n).all (fun o=> !(aY o))=true)
  (h:wpQuiet P ops I (fun a'=>aH P ops I Out Q (l.drop n) C a') (l.take n) a):aH P ops I Out Q l C a:=by
 induction n generalizing l a with
 |zero=>simpa[wpQuiet]using h
 |succ n ih=>
  cases l with
  |nil=>simpa[wpQuiet]using h
  |cons o l=>
   simp only[List.take_succ_cons,List.all_cons,Bool.and_eq_true,Bool.not_eq_true']at hno;simp only[List.take_succ_cons,List.drop_succ_cons,wpQuiet]at h;unfold aH;split
   ·rename_i hw;simp only[hw,if_true,hno.1,if_false,Bool.false_eq_true]at h⊢;obtain⟨v,h1,h2⟩:=h;refine⟨v,fun w hI=> ?_,ih hno.2 h2⟩;have:=h1 w hI;unfold Oper.quietAt at this;unfold dx
    cases hr:(execOp a.eval o).run P w with
    |ok x w'=>
     rw[hr]at this;cases x<;>simp only[Oper.quietUpon]at this⊢
     case value u=>exact this
     case skip=>exact this
     case enter f args=>exact yG hno.1 hr
    |halt x w'=>rw[hr]at this;simp only[Oper.quietUpon]at this
   ·rename_i hw;simp only[hw,if_false,Bool.false_eq_true]at h;exact ih hno.2 h
theorem rF {K K':Act→Prop} (hk:∀a,K a→K' a):∀ {l:List Oper} {a:Act},wpQuiet P ops I K l a→wpQuiet P ops I K' l a
 | [],a,h=>hk a h
 |o::rest,a,h=>by
  simp only[wpQuiet]at h⊢;split
  ·rename_i hw;simp only[hw,if_true]at h;exact Oper.quiet_mono (fun a=>rF hk) h
  ·rename_i hw;simp only[hw,if_false,Bool.false_eq_true]at h;exact rF hk h
theorem sq (n:Nat) {l:List Oper} {C:World→Prop} {a a':Act} (h:aH P ops I Out Q (l.drop n) C a')
  (hno:(l.take n).all (fun o=> !(aY o))=true:=by kernel_rfl)
  (hq:wpQuiet P ops I (fun x=>x=a') (l.take n) a:=by
   try simp only[Act.put,sA,sB,sC]
   try simp only[tA,tB,tC,tD]
   (repeat go_big_quiet_step (fail));exact wpQuiet_nil rfl):aH P ops I Out Q l C a:=
 Ao n hno (rF (fun x hx=>by rw[hx];exact h) hq)
theorem BD (v:Value) (C':World→Prop) {o:Oper} {rest:List Oper} {C:World→Prop} {a:Act} {f:FuncId} {args:Array Value}
  (hw:Region.wanted o (yielded ops a.tmps)=true) (he:aY o=true) (hrun:∀w,(execOp a.eval o).run P w=.ok (.enter f args) w)
  (hc:∀w,C w→Calls P f args w fun e w'=>e=.returned v∧C' w') (hI:∀w,C' w→I w)
  (h:aH P ops I Out Q rest C' (a.put o.dst v)):aH P ops I Out Q (o::rest) C a:=by
 unfold aH;simp only[hw,he,if_true];refine⟨fun u=>u=v,fun u w=>u=v∧C' w,⟨v,rfl⟩,fun w hC=> ?_,fun u w hu=>⟨hu.1,.inr (hI w hu.2)⟩,fun u hu=> ?_⟩
 ·unfold gives;rw[hrun w];exact(hc w hC).mono fun e w' ⟨h1,h2⟩=>by subst h1;exact⟨rfl,h2⟩
 ·subst hu;simpa using h
theorem nw {o:Oper} {asy:Array Operand} {ts:Array TypeId} {f:FuncId} {ρ:Operand→Value} (hop:o.op=.call ⟨.value (.func f),asy,ts⟩) (hρ:ρ (.func f)=.func (.func f) #[] #[])
  (hcall:∀(args:Array Value) w,(callFunc f args).run P w=.ok (.enter f args) w) (w:World):
  (execOp ρ o).run P w=.ok (.enter f (asy.toList.map ρ).toArray) w:=by
 have:asy.map ρ=(asy.toList.map ρ).toArray:=by cases asy;simp
 simp[execOp,hop,resolve,hρ,Deferred.ofValue,invoke,hcall,this]
theorem dL (f:FuncId) (args:Array Value) (v:Value) (C':World→Prop) {o:Oper} {rest:List Oper} {C:World→Prop} {a:Act} {asy:Array Operand} {ts:Array TypeId}
  (hop:o.op=.call ⟨.value (.func f),asy,ts⟩) (hcall:∀(args:Array Value) w,(callFunc f args).run P w=.ok (.enter f args) w)
  (hw:Region.wanted o (yielded ops a.tmps)=true) (hargs:(asy.toList.map a.eval).toArray=args)
  (hc:∀w,C w→Calls P f args w fun e w'=>e=.returned v∧C' w') (hI:∀w,C' w→I w)
  (h:aH P ops I Out Q rest C' (a.put o.dst v)):aH P ops I Out Q (o::rest) C a:=by
 refine BD v C' hw (by simp[aY,hop]) (fun w=>nw hop rfl hcall w) (fun w hC=> ?_) hI h;rw[hargs];exact hc w hC
theorem b7 {S:List Nat} {W:World} (f:FuncId) (args:Array Value) (v:Value) {o:Oper} {rest:List Oper} {a:Act} {asy:Array Operand} {ts:Array TypeId}
  (hop:o.op=.call ⟨.value (.func f),asy,ts⟩) (hcall:∀(args:Array Value) w,(callFunc f args).run P w=.ok (.enter f args) w)
  (hw:Region.wanted o (yielded ops a.tmps)=true) (hargs:(asy.toList.map a.eval).toArray=args)
  (hc:∀w,Mod S W w→Calls P f args w fun e w'=>e=.returned v∧Mod [] w w')
  (h:aH P ops (fun w'=>∃x:GW S W,w'=x.1) Out Q rest (fun w'=>Mod S W w') (a.put o.dst v)):
  aH P ops (fun w'=>∃x:GW S W,w'=x.1) Out Q (o::rest) (fun w'=>Mod S W w') a:=
 dL f args v (fun w'=>Mod S W w') hop hcall hw hargs (fun w hC=>(hc w hC).mono fun _ _ ⟨he,hm⟩=>⟨he,hC.ag hm⟩) (fun _ h=>ah.of h) h
theorem iS {o:Oper} {rest:List Oper} {C:World→Prop} {a:Act} (hw:Region.wanted o (yielded ops a.tmps)=false)
  (h:aH P ops I Out Q rest C (a.put o.dst undef)):aH P ops I Out Q (o::rest) C a:=by
 unfold aH;simp only[hw,if_false,Bool.false_eq_true];exact h
theorem au {C:World→Prop} {a:Act} (h:∀w,C w→Q a w):aH P ops I Out Q [] C a:=h
end
open Go.ChangeMaps (setBlock)
section
variable {P:Program} {ops:Array Oper} {I:World→Prop} {Out:Prop} {Q:Act→World→Prop}
theorem dq {o:Oper} {C:World→Prop} {a:Act} {t:TypeId} {x y:Operand} {p:Addr} {u:Value} (f:World→World) (hop:o.op=.store t x y) (hd:o.dst=none) (hl:gH ops=true) (hw:Region.wanted o (yielded ops a.tmps)=true)
  (hx:a.eval x=.pointer (some p)) (hy:a.eval y=u) (hrun:∀w,C w→(Instr.storeAt t (.pointer (some p)) u).run P w=.ok () (f w)) (h:∀w,C w→Q a (f w)):
  aH P ops I Out Q [o] C a:=by
 unfold aH;have he:aY o=true:=by simp[aY,hop]
 simp only[hw,he,if_true];refine⟨fun u=>u=undef,fun u w'=>u=undef∧∃w,C w∧w'=f w,⟨undef,rfl⟩,fun w hc=> ?_,fun u w hu=>⟨hu.1,.inl ⟨by simp,hl⟩⟩,fun u hu=> ?_⟩
 ·unfold gives;have hr:(execOp a.eval o).run P w=.ok .skip (f w):=by simp[execOp,hop,hx,hy,hrun w hc]
  rw[hr];exact⟨rfl,w,hc,rfl⟩
 ·subst hu;intro w' ⟨_,w,hc,e⟩;subst e;rw[hd];exact h w hc
end
section
variable {P:Program}
theorem aS {id:Nat} {Q:Exit→Act→World→Prop} {a:Act} {W:World} {l:List Oper} (hm:P.follows .mixedOrders=true) (hB:oR .any l.toArray=true)
  (h:aH P l.toArray (fun w'=>∃x:GW [] W,w'=x.1) (LetsOut Q) (fun a' w'=>Q .normal a' w') l (fun w'=>Mod [] W w') a):(Code.region id l.toArray true).wp P Q a W:=
 bY (fun w'=>∃x:GW [] W,w'=x.1) (fun w'=>Mod [] W w') hm hB (fun _ h=>ah.of h) (Mod.refl _ _).drew h
end
theorem aG {S:List Nat} {w w':World} {base sz n:Nat} {e:TypeId} {v:Value} {xs:List Value} (h:w.ownsRow base e sz v n xs) (hm:Mod S w w') (hS:∀g,v.ownBlock=some g→g∉S):w'.ownsRow base e sz v n xs:=by
 refine⟨h.1,?_⟩;rcases h.2 with hn|⟨g,cap,cur,rfl,hb,hgg,rest⟩
 ·exact .inl hn
 ·exact .inr ⟨g,cap,cur,rfl,hb,hm.at hgg (hS g rfl),rest⟩
theorem aE {w:World} {base base' sz n:Nat} {e:TypeId} {v:Value} {xs:List Value} (h:w.ownsRow base e sz v n xs) (hb:base'≤base):w.ownsRow base' e sz v n xs:=by
 refine⟨h.1,?_⟩;rcases h.2 with hn|⟨g,cap,cur,rfl,hg,rest⟩
 ·exact .inl hn
 ·exact .inr ⟨g,cap,cur,rfl,Nat.le_trans hb hg,rest⟩
theorem dr {w:World} {base sz n:Nat} {e:TypeId} {v:Value} {xs:List Value} (h:w.ownsRow base e sz v n xs):
  (v=.slice none 0 0∧n=0∧xs=[])∨∃g cap,v=.slice (some ⟨g,0,none⟩) n cap∧base≤g∧g<w.heap.size∧n≤cap∧cap≤maxLen∧(∀j,j<n*sz→w.cell? ⟨g,j,none⟩=xs[j]?):=by
 rcases h.2 with⟨h1,h2⟩|⟨g,cap,cur,h1,h2,h3,h4,h5,h6⟩
 ·refine .inl ⟨h1,h2,?_⟩;have:=h.1;rw[h2,Nat.zero_mul]at this;exact List.length_eq_zero_iff.1 this
 ·subst h1;exact .inr ⟨g,cap,rfl,h2,aL h3,h4,h5,fun j hj=>h.cellAt j hj⟩
theorem cW {w:World} {base sz n:Nat} {e:TypeId} {v:Value} {xs:List Value} (h:w.ownsRow base e sz v n xs) (hn:0<n):∃g cap,v=.slice (some ⟨g,0,none⟩) n cap∧base≤g∧g<w.heap.size:=by
 rcases dr h with⟨_,h0,_⟩|⟨g,cap,h1,h2,h3,_⟩
 ·omega
 ·exact⟨g,cap,h1,h2,h3⟩
theorem fY {P:Program} {t e ty:TypeId} {w0:World} {base sz n:Nat} {v:Value} {xs:List Value} (ht:P.underlying t=some (.slice e)) (h:w0.ownsRow base e sz v n xs) (w:World):
  (Builtin.len_ #[t] ty #[v]).run P w=.ok (.int .i64 n) w:=by
 rcases dr h with⟨rfl,rfl,_⟩|⟨g,cap,rfl,_⟩<;>simp[Builtin.len_,run_underlying ht,goInt]
section
variable {P:Program}
theorem cy {w:World} {base base' e sz n:Nat} {v:Value} {xs:List Value} (h:w.ownsRow base e sz v n xs) (hv:∀g,v.ownBlock=some g→base'≤g):w.ownsRow base' e sz v n xs:=by
 refine⟨h.1,?_⟩;rcases h.2 with hn|⟨g,cap,cur,rfl,_,rest⟩
 ·exact .inl hn
 ·exact .inr ⟨g,cap,cur,rfl,hv g rfl,rest⟩
theorem gG (w:World) (t ty e:TypeId) (i:TypeInfo) (z:Value) (size bytes:Nat) (ht:P.underlying t=some (.slice e)) (hi:P.info? e=some i) (hz:i.zero=some z)
  (hsize:i.size=size) (hby:i.bytes=bytes) (hzs:z.cells.size=size) (hsz:0<size)
  (v:Value) (n:Nat) (xs:List Value) (hown:w.ownsRow 0 e size v n xs)
  (a:Addr) (m c:Nat) (news:List Value) (hl:news.length=m*size) (hnews:∀j u,news[j]? =some u→w.cell? (a.add j)=some u) (h1:∀u∈news,u.oneCell'=true)
  (h63:n+m≤maxLen) (hbytes:(n+m)*bytes≤140737488355328):
  ∃v' w',(Builtin.append_ #[t,t] ty #[v,.slice (some a) m c]).run P w=.ok v' w'∧w'.ownsRow 0 e size v' (n+m) (xs++news)∧w.grownBy w' v.ownBlock∧∀x,v'.ownBlock=some x→v.ownBlock=some x∨w.heap.size≤x:=by
 rcases dr hown with⟨rfl,rfl,rfl⟩|⟨g,cap,rfl,_,_,hc,hm,_⟩
 ·obtain⟨v',w',h2,h3,h4,h5⟩:=run_append_own (P:=P) w w.heap.size t ty e i z size bytes ht hi hz hsize hby hzs hsz (.slice none 0 0) 0 [] (World.ownsRow_nil _ _ _ _) a m c news hl hnews h1 h63 hbytes (Nat.le_refl _);refine⟨v',w',h2,aE h3 (Nat.zero_le _),h4,fun x hx=>.inr ?_⟩;exact(h3.lt x hx).1
 ·by_cases hr:n+m≤cap
  ·obtain⟨w',h2,h3,h4⟩:=run_append_fits (P:=P) w 0 t ty e i size ht hi hsize g n cap xs hown a m c news hl hnews h1 hr;exact⟨_,w',h2,h3,h4,fun x hx=>.inl hx⟩
  ·have holds:∀j u,xs[j]? =some u→w.cell? ((⟨g,0,none⟩:Addr).add j)=some u:=hown.cells (g:=g) rfl;obtain⟨v',w',h2,h3,h4⟩:=run_append_arg_grows (P:=P) w t ty e i z size bytes ht hi hz hsize hby hzs hsz ⟨g,0,none⟩ n cap xs hown.1 holds a m c news hl hnews (by omega) h63 hbytes;exact⟨v',w',h2,aE h3 (Nat.zero_le _),⟨h4.os,h4.tape,h4.output,h4.size,fun k hk _=>h4.block k hk (by simp)⟩,fun x hx=>.inr (h3.lt x hx).1⟩
theorem dO (w:World) {ops:Array Oper} {rest:List Oper} {o:Oper} {a:Act} {Q:Exit→Act→World→Prop} (hgd:o.guard=none) (s x:Operand) (t:TypeId)
  (ho:o.op=.call {callee:=.builtin .append,args:=#[s,x],argTypes:=#[t,t]})
  (e:TypeId) (i:TypeInfo) (z:Value) (size bytes:Nat) (ht:P.underlying t=some (.slice e)) (hi:P.info? e=some i) (hz:i.zero=some z)
  (hsize:i.size=size) (hby:i.bytes=bytes) (hzs:z.cells.size=size) (hsz:0<size)
  (v:Value) (n:Nat) (xs:List Value) (hs:a.eval s=v) (hown:w.ownsRow 0 e size v n xs)
  (ad:Addr) (m c:Nat) (news:List Value) (hx:a.eval x=.slice (some ad) m c) (hl:news.length=m*size) (hnews:∀j u,news[j]? =some u→w.cell? (ad.add j)=some u) (h1:∀u∈news,u.oneCell'=true)
  (h63:n+m≤maxLen) (hbytes:(n+m)*bytes≤140737488355328)
  (h:∀v' w',w'.ownsRow 0 e size v' (n+m) (xs++news)→w.grownBy w' v.ownBlock→(∀x,v'.ownBlock=some x→v.ownBlock=some x∨w.heap.size≤x)→wpList P ops Q rest (a.put o.dst v') w'):wpList P ops Q (o::rest) a w:=by
 refine wpList_plain hgd fun K hK=> ?_
 obtain⟨v',w',hr,h2,h3,h4⟩:=gG (P:=P) w t o.type e i z size bytes ht hi hz hsize hby hzs hsz v n xs hown ad m c news hl hnews h1 h63 hbytes;unfold Oper.wp execOp;simp only[ho,resolve,invoke,builtin,Sem.run_bind,Sem.run_pure,Result.andThen_ok,List.map_toArray,List.map_cons,List.map_nil,hs,hx,hr];exact hK _ _ (h v' w' h2 h3 h4)
theorem ny (w:World) (a:Value) (T:TypeId):∀j u,[a][j]? =some u→(w.alloc (.cells #[a] T)).cell? ((⟨w.heap.size,0,none⟩:Addr).add j)=some u:=by
 intro j u h;have hadd:(⟨w.heap.size,0,none⟩:Addr).add j=⟨w.heap.size,j,none⟩:=by unfold Addr.add;split<;>simp_all
 rw[hadd,ae (an w _)];simpa using h
theorem sized {n c k:Nat} (h:n≤c) (hc:c≤1000000) (hk:k≤1000):(n+1)*k≤140737488355328:=by
 have:(n+1)*k≤1000001*1000:=Nat.mul_le_mul (by omega) hk;omega
theorem FD {n c:Nat} (h:n≤c) (hc:c≤1000000):n+1≤maxLen:=by unfold maxLen;omega
end
def bU (k:Int):List MapEntry→Option Value
 | []=>none
 |e::es=>match e.key with
  | .int _ n=>if k=n then some e.val else bU k es
  |_=>none
def dE (k:Int):List MapEntry→Nat→Option Nat
 | [],_=>none
 |e::es,i=>match e.key with
  | .int _ n=>if k=n then some i else dE k es (i+1)
  |_=>none
def cL:List MapEntry→Prop
 | []=>True
 |e::es=>(∃n,e.key=.int .i64 n∧bU n es=none)∧cL es
theorem uJ (k:Int):∀(es:List MapEntry) (i:Nat),cL es→
  Instr.findNow (.int .i64) (.int .i64 k) es i=some (match dE k es i,bU k es with|some j,some v=>some (j,v)|_,_=>none)
 | [],i,_=>rfl
 |e::es,i,h=>by
  obtain⟨⟨n,hn,_⟩,h2⟩:=h;unfold Instr.findNow;simp only[hn,Instr.sameNow,dE,bU];by_cases hk:k=n
  ·subst hk;simp
  ·have hf:(k==n)=false:=by simpa using hk
   simp[hk,hf,uJ k es (i+1) h2]
theorem jK (k:Int):∀(es:List MapEntry) (i:Nat),cL es→(dE k es i=none↔bU k es=none)
 | [],_,_=>by simp[dE,bU]
 |e::es,i,h=>by
  obtain⟨⟨n,hn,_⟩,h2⟩:=h;simp only[dE,bU,hn];by_cases hk:k=n
  ·simp[hk]
  ·simp[hk,jK k es (i+1) h2]
theorem ot (k:Int):∀(es:List MapEntry) (i j:Nat),cL es→dE k es i=some j→∃d,j=i+d∧∃e,es[d]? =some e∧e.key=.int .i64 k
 | [],_,_,_,h=>by simp[dE]at h
 |e::es,i,j,hk,h=>by
  obtain⟨⟨n,hn,_⟩,h2⟩:=hk;simp only[dE,hn]at h;by_cases hkn:k=n
  ·subst hkn;simp at h;exact⟨0,by omega,e,rfl,hn⟩
  ·simp[hkn]at h;obtain⟨d,h3,e',h4,h5⟩:=ot k es (i+1) j h2 h;exact⟨d+1,by omega,e',by simpa using h4,h5⟩
def c9 (k:Int) (v:Value) (clock:Nat) (es:Array MapEntry):Array MapEntry×Nat:=
 match dE k es.toList 0 with
 |some i=>(es.modify i fun e=>{e with key:=.int .i64 k,val:=v},clock)
 |none=>(es.push {key:=.int .i64 k,val:=v,born:=clock},clock+1)
def lS (k:Int) (es:Array MapEntry):Array MapEntry:=
 match dE k es.toList 0 with
 |some i=>es.eraseIdxIfInBounds i
 |none=>es
theorem ru (k:Int) (v:Value) (j:Int):∀(es:List MapEntry) (i d:Nat),cL es→dE k es i=some (i+d)→
  (cL (es.modify d fun e=>{e with key:=.int .i64 k,val:=v})∧bU j (es.modify d fun e=>{e with key:=.int .i64 k,val:=v})=if j=k then some v else bU j es)
 | [],_,_,_,h=>by simp[dE]at h
 |e::es,i,d,hk,h=>by
  obtain⟨⟨n,hn,hno⟩,h2⟩:=hk;simp only[dE,hn]at h;by_cases hkn:k=n
  ·subst hkn;simp at h;subst h;refine⟨⟨⟨k,rfl,hno⟩,h2⟩,?_⟩;simp only[List.modify_zero_cons,bU,hn];split<;>simp_all
  ·simp[hkn]at h
   cases d with
   |zero=>obtain⟨d',h3,_⟩:=ot k es (i+1) _ h2 h;omega
   |succ d=>
    have ih:=fun j=>ru k v j es (i+1) d h2 (by rw[h];congr 1;omega)
    simp only[List.modify_succ_cons,bU,hn];refine⟨⟨⟨n,hn,by rw[(ih n).2,if_neg (Ne.symm hkn)];exact hno⟩,(ih 0).1⟩,?_⟩;rw[(ih j).2];by_cases hjn:j=n
    ·subst hjn;simp;intro h';exact absurd h'.symm hkn
    ·simp[hjn]
theorem rY (k:Int) (v:Value) (c:Nat) (j:Int):∀(es:List MapEntry),cL es→bU k es=none→
  (cL (es++[{key:=.int .i64 k,val:=v,born:=c}])∧bU j (es++[{key:=.int .i64 k,val:=v,born:=c}])=if j=k then some v else bU j es)
 | [],_,_=>by simp[cL,bU]
 |e::es,hk,h=>by
  obtain⟨⟨n,hn,hno⟩,h2⟩:=hk;simp only[bU,hn]at h;by_cases hkn:k=n
  ·simp[hkn]at h
  ·simp[hkn]at h;have ih:=fun j=>rY k v c j es h2 h
   simp only[List.cons_append,bU,hn];refine⟨⟨⟨n,hn,by rw[(ih n).2,if_neg (Ne.symm hkn)];exact hno⟩,(ih 0).1⟩,?_⟩;rw[(ih j).2];by_cases hjn:j=n
   ·subst hjn;simp;intro h';exact absurd h'.symm hkn
   ·simp[hjn]
theorem kE (k:Int) (v:Value) (c:Nat) (es:Array MapEntry) (h:cL es.toList):
  cL (c9 k v c es).1.toList∧∀j,bU j (c9 k v c es).1.toList=if j=k then some v else bU j es.toList:=by
 unfold c9
 cases hp:dE k es.toList 0 with
 |none=>
  have hg:=(jK k es.toList 0 h).1 hp;simp only[Array.toList_push];exact⟨(rY k v c 0 es.toList h hg).1,fun j=>(rY k v c j es.toList h hg).2⟩
 |some i=>
  simp only[Array.toList_modify];exact⟨(ru k v 0 es.toList 0 i h (by simpa using hp)).1,fun j=>(ru k v j es.toList 0 i h (by simpa using hp)).2⟩
theorem rJ (k:Int) (j:Int):∀(es:List MapEntry) (i d:Nat),cL es→dE k es i=some (i+d)→
  (cL (es.eraseIdx d)∧bU j (es.eraseIdx d)=if j=k then none else bU j es)
 | [],_,_,_,h=>by simp[dE]at h
 |e::es,i,d,hk,h=>by
  obtain⟨⟨n,hn,hno⟩,h2⟩:=hk;simp only[dE,hn]at h;by_cases hkn:k=n
  ·subst hkn;simp at h;subst h;refine⟨h2,?_⟩;simp only[List.eraseIdx_zero,List.tail_cons,bU,hn];split<;>simp_all
  ·simp[hkn]at h
   cases d with
   |zero=>obtain⟨d',h3,_⟩:=ot k es (i+1) _ h2 h;omega
   |succ d=>
    have ih:=fun j=>rJ k j es (i+1) d h2 (by rw[h];congr 1;omega)
    simp only[List.eraseIdx_cons_succ,bU,hn];refine⟨⟨⟨n,hn,by rw[(ih n).2,if_neg (Ne.symm hkn)];exact hno⟩,(ih 0).1⟩,?_⟩;rw[(ih j).2];by_cases hjn:j=n
    ·subst hjn;simp;intro h';exact absurd h'.symm hkn
    ·simp[hjn]
theorem wy (k:Int) (es:Array MapEntry) (h:cL es.toList):
  cL (lS k es).toList∧∀j,bU j (lS k es).toList=if j=k then none else bU j es.toList:=by
 unfold lS
 cases hp:dE k es.toList 0 with
 |none=>
  have hg:=(jK k es.toList 0 h).1 hp;refine⟨h,fun j=> ?_⟩;by_cases hj:j=k
  ·subst hj;simp[hg]
  ·simp[hj]
 |some i=>
  obtain⟨d,h1,e,h2,_⟩:=ot k es.toList 0 i h hp;have hlt:i<es.size:=by
   have:=(List.getElem?_eq_some_iff.1 h2).1;simp at this;omega
  have he:(es.eraseIdxIfInBounds i).toList=es.toList.eraseIdx i:=by
   simp[Array.eraseIdxIfInBounds,hlt]
  simp only[he];exact⟨(rJ k 0 es.toList 0 i h (by simpa using hp)).1,fun j=>(rJ k j es.toList 0 i h (by simpa using hp)).2⟩
section
variable {P:Program}
theorem nN {kt:TypeId} (hk:P.underlying kt=some (.int .i64)) (e:Bool) (v:Value) (w:World):(Instr.checkKey e 10000 kt v).run P w=.ok () w:=by
 rw[show(10000:Nat)=9999+1 from rfl];unfold Instr.checkKey;simp[run_underlying hk]
theorem nO {kt:TypeId} (hk:P.underlying kt=some (.int .i64)) (k:Int) (es:List MapEntry) (h:cL es) (w:World):
  (Instr.findKey kt (.int .i64 k) es).run P w=.ok (match dE k es 0,bU k es with|some j,some v=>some (j,v)|_,_=>none) w:=by
 unfold Instr.findKey;simp[run_underlying hk,uJ k es 0 h]
theorem run_getObj_map {w:World} {b:Nat} {es:Array MapEntry} {c:Nat} (hb:w.heap[b]? =some (.map es c)):(getObj b).run P w=.ok (.map es c) w:=by
 simp[getObj,Sem.run,hb]
theorem run_setObj_map {w:World} {b:Nat} {es:Array MapEntry} {c:Nat} (hb:w.heap[b]? =some (.map es c)) (o:Obj):(setObj b o).run P w=.ok () {w with heap:=w.heap.setIfInBounds b o}:=by
 simp[setObj,Sem.run,hb]
theorem jG {t kt et:TypeId} {z:Value} (ht:P.underlying t=some (.map kt et)) (hk:P.underlying kt=some (.int .i64)) (hz:∀w,(zeroValue et).run P w=.ok z w)
  {w:World} {b:Nat} {es:Array MapEntry} {c:Nat} (hb:w.heap[b]? =some (.map es c)) (h:cL es.toList) (k:Int):
  (Instr.lookup t (.map (some b)) (.int .i64 k) false).run P w=.ok ((bU k es.toList).getD z) w:=by
 unfold Instr.lookup;simp[run_underlying ht,run_getObj_map hb,nN hk,nO hk k es.toList h]
 cases hg:bU k es.toList with
 |none=>
  have:=(jK k es.toList 0 h).2 hg;simp[this,hz]
 |some v=>
  cases hp:dE k es.toList 0 with
  |none=>have:=(jK k es.toList 0 h).1 hp;rw[this]at hg;cases hg
  |some j=>simp
theorem qY {t kt et:TypeId} {z:Value} (ht:P.underlying t=some (.map kt et)) (hk:P.underlying kt=some (.int .i64)) (hz:∀w,(zeroValue et).run P w=.ok z w)
  (w:World) (k:Int):(Instr.lookup t (.map none) (.int .i64 k) false).run P w=.ok z w:=by
 unfold Instr.lookup;simp[run_underlying ht,nN hk,nO hk k [] trivial,dE,bU,hz]
theorem mM {t kt et:TypeId} (ht:P.underlying t=some (.map kt et)) (hk:P.underlying kt=some (.int .i64))
  {w:World} {b:Nat} {es:Array MapEntry} {c:Nat} (hb:w.heap[b]? =some (.map es c)) (h:cL es.toList) (k:Int) (v:Value):
  (Instr.mapUpdate t (.map (some b)) (.int .i64 k) v).run P w=.ok () {w with heap:=w.heap.setIfInBounds b (.map (c9 k v c es).1 (c9 k v c es).2)}:=by
 unfold Instr.mapUpdate;simp[run_underlying ht,run_getObj_map hb,nN hk,nO hk k es.toList h,c9]
 cases hg:bU k es.toList with
 |none=>
  have:=(jK k es.toList 0 h).2 hg;simp[this,run_setObj_map hb]
 |some u=>
  cases hp:dE k es.toList 0 with
  |none=>have:=(jK k es.toList 0 h).1 hp;rw[this]at hg;cases hg
  |some j=>
   obtain⟨d,h1,e,h2,h3⟩:=ot k es.toList 0 j h hp;have hd:j=d:=by omega
   subst hd;have h2':es[j]? =some e:=by simpa using h2
   simp[h2',h3,Instr.keyThatStays,Instr.sameBits,run_setObj_map hb]
theorem uk {t kt et ty:TypeId} (ht:P.underlying t=some (.map kt et)) (hk:P.underlying kt=some (.int .i64))
  {w:World} {b:Nat} {es:Array MapEntry} {c:Nat} (hb:w.heap[b]? =some (.map es c)) (h:cL es.toList) (k:Int) (ts:Array TypeId) (hts:ts[0]? =some t):
  (Builtin.delete_ ts ty #[.map (some b),.int .i64 k]).run P w=.ok (.tuple #[]) {w with heap:=w.heap.setIfInBounds b (.map (lS k es) c)}:=by
 unfold Builtin.delete_;simp[hts,run_underlying ht,run_getObj_map hb,nN hk,nO hk k es.toList h,lS]
 cases hg:bU k es.toList with
 |none=>
  have:=(jK k es.toList 0 h).2 hg;simp[this,run_setObj_map hb]
 |some u=>
  cases hp:dE k es.toList 0 with
  |none=>have:=(jK k es.toList 0 h).1 hp;rw[this]at hg;cases hg
  |some j=>simp[run_setObj_map hb]
theorem ie {w:World} {b:Nat} {o o':Obj} (hb:w.heap[b]? =some o):({w with heap:=w.heap.setIfInBounds b o'}:World).heap[b]? =some o':=by
 have:=aL hb;simp[this]
theorem Mod.gj {S:List Nat} {a w:World} (h:Mod S a w) {b:Nat} (hp:b∈S∨a.heap.size≤b) (o:Obj):Mod S a {w with heap:=w.heap.setIfInBounds b o}:=
 h.then (T:=[b]) ⟨rfl,rfl,rfl,by simp,fun k _ hn=>by
  show(w.heap.setIfInBounds b o)[k]? =_;rw[Array.getElem?_setIfInBounds_ne (by simp at hn;exact fun e=>hn e.symm)]⟩ (by simpa using hp)
theorem ph {ops:Array Oper} {I:World→Prop} {Out:Prop} {Q:Act→World→Prop} (bm:Nat) (es:Array MapEntry) (c:Nat) (k:Int) (v:Value) (C':World→Prop) {o:Oper} {rest:List Oper} {C:World→Prop} {a:Act}
  {t kt et:TypeId} {m x y:Operand} (hop:o.op=.mapUpdate t m x y) (ht:P.underlying t=some (.map kt et)) (hk:P.underlying kt=some (.int .i64))
  (hw:Region.wanted o (yielded ops a.tmps)=true) (hm:a.eval m=.map (some bm)) (hx:a.eval x=.int .i64 k) (hy:a.eval y=v)
  (hes:cL es.toList) (hC:∀w,C w→w.heap[bm]? =some (.map es c)) (hC':∀w,C w→C' {w with heap:=w.heap.setIfInBounds bm (.map (c9 k v c es).1 (c9 k v c es).2)}) (hI:∀w,C' w→I w)
  (h:aH P ops I Out Q rest C' (a.put o.dst undef)):aH P ops I Out Q (o::rest) C a:=by
 unfold aH;have he:aY o=true:=by simp[aY,hop]
 simp only[hw,he,if_true];refine⟨fun u=>u=undef,fun u w=>u=undef∧C' w,⟨undef,rfl⟩,fun w hc=> ?_,fun u w hu=>⟨hu.1,.inr (hI w hu.2)⟩,fun u hu=> ?_⟩
 ·unfold gives;have hrun:(execOp a.eval o).run P w=.ok .skip {w with heap:=w.heap.setIfInBounds bm (.map (c9 k v c es).1 (c9 k v c es).2)}:=by
   simp[execOp,hop,hm,hx,hy,mM ht hk (hC w hc) hes k v]
  rw[hrun];exact⟨rfl,hC' w hc⟩
 ·subst hu;simpa using h
end
end Stg
end Go
