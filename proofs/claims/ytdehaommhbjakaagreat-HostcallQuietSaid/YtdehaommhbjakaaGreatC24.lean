/- Joined contracts. No conditions. -/
import Derived.Test.YtdehaommhbjakaaGreatC23
set_option maxRecDepth 20000
namespace Go.Proofs.YtdehaommhbjakaaGreat
open RowKit Stg
def cm (w:World) (mo:Option Nat) (g:Int→Nat):Prop:=
 match mo with
 |none=>∀k,g k=0
 |some bm=>∃es c,w.heap[bm]? =some (.map es c)∧cL es.toList∧∀k,(bU k es.toList).getD (.int .i64 0)=.int .i64 (g k)
theorem cm.mod {S:List Nat} {w w':World} {mo:Option Nat} {g:Int→Nat} (h:cm w mo g) (hm:Mod S w w') (hS:∀x,mo=some x→x∉S):cm w' mo g:=by
 cases mo with
 |none=>exact h
 |some b=>exact let ⟨es,c,h1,h2,h3⟩:=h;⟨es,c,hm.at h1 (hS b rfl),h2,h3⟩
theorem cm.lt {w:World} {mo:Option Nat} {g:Int→Nat} (h:cm w mo g):∀x,mo=some x→x<w.heap.size:=by
 intro x hx;subst hx;obtain⟨es,c,h1,_⟩:=h;exact aL h1
theorem cm.look {w:World} {mo:Option Nat} {g:Int→Nat} (h:cm w mo g) (k:Int):
  (Instr.lookup 140 (.map mo) (.int .i64 k) false).run Tryz.prog w=.ok (.int .i64 (g k)) w:=by
 cases mo with
 |none=>rw[qY (z:=.int .i64 0) Tryz.underlying140 Tryz.underlying3 (fun w=>Tryz.zeroValue3 w),show g k=0 from h k];rfl
 |some b=>
  obtain⟨es,c,h1,h2,h3⟩:=h;rw[jG (z:=.int .i64 0) Tryz.underlying140 Tryz.underlying3 (fun w=>Tryz.zeroValue3 w) h1 h2,h3]
def jU (mo:Option Nat) (g:Int→Nat):ai:=
 ⟨fun w f=>cm w mo g∧f=mo.toList,fun h hm hT=>⟨h.1.mod hm fun x hx=>hT x (by rw[h.2,hx];simp),h.2⟩,fun h x hx=>by rw[h.2,Option.mem_toList]at hx;exact h.1.lt x hx⟩
theorem af.lj {F:List Nat} {W w:World} {cs:List ai} (i:Nat) {mo:Option Nat} {g:Int→Nat} (h:af F W cs w) (hi:cs[i]? =some (jU mo g)):cm w mo g:=
 let ⟨_,h1,_⟩:=h.part i hi;h1.1
def bump (g:Int→Nat) (p:Int):Int→Nat:=fun k=>if k=p then g k+1 else g k
def bC (e:Ev):List Value:=[.int .i64 e.p,.int .i64 e.op,.int .u64 e.h,.int .u64 e.arg,.int .i64 e.err]
def ir (evs:List Ev):Int:=evs.foldl (fun d e=>mB d (iM e)) 14695981039346656037
theorem vd (evs:List Ev) (e:Ev):ir (evs++[e])=mB (ir evs) (iM e):=by simp[ir]
def o7 (lb:Nat) (cap:Int) (ev bv:Value) (last:Int) (rm mm:Option Nat) (nb:Nat) (xs:List Value) (evs:List Ev) (g m:Int→Nat):List ai:=
 [aj lb (.cells #[.int .i64 cap,ev,bv,.int .u64 last,.map rm,.map mm] 142 (0,0)),aT ev evs.length 100 5 (flat bC evs),aT bv nb 5 1 xs,jU rm g,jU mm m]
def Ha (evs:List Ev) (last:Int) (nb:Nat):Prop:=(0≤last∧last≤18446744073709551615)∧nb≤200*evs.length∧(evs≠ []→last=ir evs)
def G0 (lb:Nat) (cap:Int) (evs:List Ev) (miss:List Int) (w:World) (f:List Nat):Prop:=∃ev bv last rm mm nb xs,Ha evs last nb∧aU (o7 lb cap ev bv last rm mm nb xs evs (b5 evs) (gO miss)) w f
def dG (lb:Nat) (cap:Int) (evs:List Ev) (miss:List Int):ai:=
 ⟨G0 lb cap evs miss,fun⟨a,b,c,d,e,n,xs,h1,h2⟩ hm hT=>⟨a,b,c,d,e,n,xs,h1,h2.bj hm hT⟩,fun⟨_,_,_,_,_,_,_,_,h⟩=>h.lt⟩
theorem vb (bs:List Int):∀d:Int,0≤d→d≤18446744073709551615→0≤iP d bs∧iP d bs≤18446744073709551615:=by
 induction bs with
 |nil=>intro d h0 h1;exact⟨h0,h1⟩
 |cons b l ih=>
  intro d _ _;have:iP d (b::l)=iP (qN d b) l:=rfl;rw[this];refine ih _ ?_ ?_<;> ·unfold qN;simp[IntKind.wrap,IntKind.bits,IntKind.signed];omega
theorem CX (cap:Int) (h0:0≤cap) (h1:cap≤65536) (w:World):Calls Tryz.prog 35 #[.int .i64 cap] w fun e w'=>e=.returned (.tuple #[.pointer (some ⟨w.heap.size,0,none⟩),.int .i64 0])∧w'=w.alloc (.cells #[.int .i64 cap,.slice none 0 0,.slice none 0 0,.int .u64 0,.map none,.map none] 142):=by
 have z1:decide (cap<0)=false:=by rw[decide_eq_false_iff_not];omega
 have z2:decide (cap>65536)=false:=by rw[decide_eq_false_iff_not];omega
 go_enter Tryz.func35,Tryz.ntmps35;go_wp2;go_ret2;exact⟨rfl,rfl⟩
theorem C3 (cap:Int) {w:World} {b:Nat} (h:w.heap[b]? =some (.cells #[.int .i64 cap,.slice none 0 0,.slice none 0 0,.int .u64 0,.map none,.map none] 142 (0,0))):(dG b cap [] []).on w ([b]++([]++([]++([]++([]++[]))))):=by
 refine⟨_,_,0,none,none,0,[],⟨by omega,by simp,by simp⟩,[b],_,⟨h,rfl⟩,⟨[],_,⟨World.ownsRow_nil _ _ _ _,rfl⟩,⟨[],_,⟨World.ownsRow_nil _ _ _ _,rfl⟩,⟨[],_,⟨fun k=>rfl,rfl⟩,⟨[],[],⟨fun k=>rfl,rfl⟩,rfl,by simp,rfl⟩,by simp,rfl⟩,by simp,rfl⟩,by simp,rfl⟩,by simp,rfl⟩
theorem rZ {lb:Nat} {cap last:Int} {ev bv mr mm:Value} {evs:List Ev} {w:World} (hb:w.heap[lb]? =some (.cells #[.int .i64 cap,ev,bv,.int .u64 last,mr,mm] 142 (0,0))) (hr:w.ownsRow 0 100 5 ev evs.length (flat bC evs)) (hd:evs≠ []→last=ir evs):
  Calls Tryz.prog 20 #[.pointer (some ⟨lb,0,none⟩)] w fun e w'=>e=.returned (.int .u64 (ir evs))∧w'=w:=by
 have hcb:=ae hb;have hln:=fun ty w'=>fY (ty:=ty) Tryz.underlying130 hr w'
 have hlen:Calls Tryz.prog 50 #[.pointer (some ⟨lb,0,none⟩)] w fun e w'=>e=.returned (.int .i64 evs.length)∧w'=w:=by
  obtain⟨ea,el,ec,rfl⟩:=dW hr;generalize evs.length=n at*;clear hr hd hb;go_enter Tryz.func50,Tryz.ntmps50;go_wp2;go_ret;exact⟨rfl,rfl⟩
 have hsum:=zh fun w=>Dv (v:=.slice none 0 0) (bs:=[]) (w:=w) (.inl ⟨rfl,rfl⟩)
 have hlenH:=zh hlen
 cases evs with
 |nil=>
  have hde:ir []=14695981039346656037:=rfl;rw[hde];clear hr hb hd hlen hln hde;go_enter Tryz.func20,Tryz.ntmps20;go_wp2_with fail;refine hlenH.out.mono ?_;rintro e w1 ⟨rfl,rfl⟩;go_wp2_with fail;refine(hsum.out _).mono ?_;rintro e w2 ⟨rfl,rfl⟩;go_wp2_with fail;go_ret;exact⟨rfl,rfl⟩
 |cons e0 l=>
  have hd:=hd (by simp);subst hd;have hz:(((e0::l).length:Int)==0)=false:=by simp;omega
  generalize(e0::l).length=n at*;generalize ir (e0::l)=d at*;clear hr hb hlen hln;go_enter Tryz.func20,Tryz.ntmps20;go_wp2_with fail;refine hlenH.out.mono ?_;rintro e w1 ⟨rfl,rfl⟩;go_wp2_with fail;go_ret;exact⟨rfl,rfl⟩
section
variable {lb:Nat} {cap:Int} {evs:List Ev} {miss:List Int} {w:World} {f:List Nat} (h:(dG lb cap evs miss).on w f)
include h
theorem vz (p:Int):Calls Tryz.prog 23 #[.pointer (some ⟨lb,0,none⟩),.int .i64 p] w fun e w'=>e=.returned (.int .i64 (b5 evs p))∧w'=w:=by
 obtain⟨ev,bv,last,rm,mm,nb,xs, -,hH⟩:=h;have hS:=af.start hH;have hcb:=ae (hS.block 0 rfl);have hlk:=(af.lj 3 hS rfl).look p;generalize b5 evs p=r at*;clear hH hS;go_enter Tryz.func23,Tryz.ntmps23;go_wp2;go_ret;exact⟨rfl,rfl⟩
theorem Cu (p:Int):Calls Tryz.prog 24 #[.pointer (some ⟨lb,0,none⟩),.int .i64 p] w fun e w'=>e=.returned (.int .i64 (gO miss p))∧w'=w:=by
 obtain⟨ev,bv,last,rm,mm,nb,xs, -,hH⟩:=h;have hS:=af.start hH;have hcb:=ae (hS.block 0 rfl);have hlk:=(af.lj 4 hS rfl).look p;generalize gO miss p=r at*;clear hH hS;go_enter Tryz.func24,Tryz.ntmps24;go_wp2;go_ret;exact⟨rfl,rfl⟩
theorem qk (p:Int):Calls Tryz.prog 76 #[.pointer (some ⟨lb,0,none⟩),.int .i64 p] w fun e w'=>e=.returned (.bool (decide ((b5 evs p:Int)<cap)))∧Mod [] w w':=by
 have hr:=zh fun w' (hm:Mod [] w w')=>vz (ai.bj _ h hm (by simp)) p
 obtain⟨ev,bv,last,rm,mm,nb,xs, -,hH⟩:=h;have hS:=af.start hH;have hb:=hS.block 0 rfl;have k1:=GW.cells (S:=[]) hb (by simp);generalize b5 evs p=r at*;clear hH hS hb;go_enter Tryz.func76,Tryz.ntmps76;go_wp2_with fail;refine aS (by kernel_rfl) (by kernel_rfl) ?_;refine sq 5 ?_;refine b7 23 _ (.int .i64 r) rfl Tryz.call23 rfl rfl (fun w' hm=>(hr.out w' hm).mono fun e w'' ⟨he,hw⟩=>⟨he,hw▸Mod.refl [] _⟩) ?_;refine sq 7 ?_;refine au fun w2 hm2=> ?_
 clear k1;go_wp2_with fail;go_ret;exact⟨rfl,hm2⟩
theorem Dl:Calls Tryz.prog 20 #[.pointer (some ⟨lb,0,none⟩)] w fun e w'=>e=.returned (.int .u64 (ir evs))∧w'=w:=by
 obtain⟨ev,bv,last,rm,mm,nb,xs,⟨-, -,hd⟩,hH⟩:=h;have hS:=af.start hH;exact rZ (hS.block 0 rfl) (hS.row 1 rfl) hd
end
end Go.Proofs.YtdehaommhbjakaaGreat
namespace Go.Proofs.YtdehaommhbjakaaGreat
open RowKit Stg
open Ty (ax)
theorem yM {k b:Nat} {xs:Array Value} {T:TypeId} {v:Value} {w:World} {f:List Nat} (hk:k<xs.size) (hv:xs[k]? =some v) (h:(aj b (.cells xs T (0,0))).on w f):(kR k b xs T v).on w f:=by
 obtain⟨h1,h2⟩:=h;refine⟨?_,h2⟩;have:=Site.of h1 hk;rw[Array.getElem?_eq_getElem hk]at hv;rw[Option.some.inj hv]at this;exact this
theorem yD {k b:Nat} {xs:Array Value} {T:TypeId} {v:Value} {w:World} {f:List Nat} (h:(kR k b xs T v).on w f):(aj b (.cells (xs.setIfInBounds k v) T (0,0))).on w f:=⟨h.1.aQ,h.2⟩
def CJ (BL:List (Value×List Int)):ai:=ai.all (BL.map fun x=>aT x.1 x.2.length 5 1 (aR x.2))
structure RA where
 rb:Nat
 tb:Nat
 te:Value
 tg:Nat
 gv:Value
 lv:Value
 cA:Int
 stack:Int
structure RV where
 ty:Value
 us:Value
 bo:Value
 me:Value
 ev:Value
 mi:Value
 zD:Value
 st:Value
structure RD where
 R:List Ty.Ty
 U:List Ext
 T:Tb.TS
 L:List Bw.ak
 M:List (Int×Qt.Q)
 evs:List Ev
 miss:List Int
 B:List (List Int)
 st:Int→Int
def nL (a:RA) (c:HC) (v:RV):Array Value:=#[.int .i64 c.n,.int .i64 c.size,.int .u32 c.first,.int .i64 c.cap,.int .i64 c.lim.b,.int .i64 c.lim.o,.int .i64 c.lim.r,.int .i64 a.cA,.int .i64 a.stack,v.ty,.int .i64 c.size,v.us,.pointer (some ⟨a.tb,0,none⟩),v.bo,.int .i64 c.lim.b,.int .i64 c.lim.o,.int .i64 c.lim.r,v.me,.int .i64 c.cap,v.ev,v.mi,v.zD,v.st]
def pg (a:RA) (c:HC) (v:RV):Obj:=.cells (nL a c v) 135 (0,0)
def ki (st:Int→Int):List Value:=(List.range 65).map fun i:Nat=>.int .i64 (st i)
def ud (a:RA) (c:HC) (v:RV) (TL:List (Ty.Ty×Value)) (BL:List (Value×List Int)) (d:RD):List ai:=
 [aj a.rb (pg a c v),aT v.ty TL.length 54 2 (flat Ty.bZ TL),Ty.gh TL,aT v.us d.U.length 104 2 (ax d.U),Tb.qJ a.tb a.te a.tg a.gv a.lv c.first d.T,aT v.bo d.L.length 222 4 (flat Bw.cZ d.L),aT v.me d.M.length 344 4 (Qt.tK d.M),
  aT v.ev d.evs.length 100 5 (flat bC d.evs),aT v.mi d.miss.length 3 1 (d.miss.map (.int .i64)),aT v.zD BL.length 56 1 (BL.map (·.1)),CJ BL,aT v.st 65 3 1 (ki d.st)]
def Hg (a:RA) (c:HC) (d:RD) (w:World) (f:List Nat):Prop:=∃v TL BL,TL.map (·.1)=d.R∧BL.map (·.2)=d.B∧aU (ud a c v TL BL d) w f
def fT (a:RA) (c:HC) (d:RD):ai:=⟨Hg a c d,fun⟨v,TL,BL,h1,h2,h3⟩ hm hT=>⟨v,TL,BL,h1,h2,h3.bj hm hT⟩,fun⟨_,_,_,_,_,h⟩=>h.lt⟩
section
variable {F:List Nat} {W w:World} {cs:List ai} {a:RA} {c:HC} {d:RD}
theorem s6 (h:af F W (fT a c d::cs) w):∃v TL BL,TL.map (·.1)=d.R∧BL.map (·.2)=d.B∧af F W (ud a c v TL BL d++cs) w:=by
 obtain⟨h1,fp,⟨f,g,⟨v,TL,BL,e1,e2,hf⟩,hg,hd,rfl⟩,h2⟩:=h;exact⟨v,TL,BL,e1,e2,h1,f++g,hf.append hg hd,h2⟩
theorem tz {v:RV} {TL:List (Ty.Ty×Value)} {BL:List (Value×List Int)} (e1:TL.map (·.1)=d.R) (e2:BL.map (·.2)=d.B) (h:af F W (ud a c v TL BL d++cs) w):af F W (fT a c d::cs) w:=
 af.js (c:=fT a c d) _ h fun _ hg=>⟨v,TL,BL,e1,e2,hg⟩
end
section
variable {F:List Nat} {W w w':World} {cs ds:List ai}
theorem Eg {α:Type} {c:ai} (D:α→ai) (h:af F W (c::cs) w) (hc:∀f,c.on w f→∃x,(D x).on w f):∃x,af F W (D x::cs) w:=by
 obtain⟨h1,fp,⟨f,g,hf,hg,hd,e⟩,h2⟩:=h;obtain⟨x,hx⟩:=hc f hf;exact⟨x,h1,fp,⟨f,g,hx,hg,hd,e⟩,h2⟩
theorem Ba {a r:ai} (i:Nat) (h:af F W (a::ds) w) (hi:ds[i]? =some r):af F W (ai.all [a,r]::ds.eraseIdx i) w:=
 ((h.out (i+1) (by simpa using hi)).swap).zu
theorem Ac {a r:ai} (i:Nat) (hi:i<ds.length) (h:af F W (ai.all [a,r]::ds.eraseIdx i) w):af F W (a::ds.set i r) w:=by
 have h1:=h.yZ.swap;have h2:=af.back (cs:=a::ds) (i+1) (by simpa using hi) h1;exact h2
theorem D0 {P:Program} {fn:FuncId} {args:Array Value} {val:Value} {α:Type} {b0 r0 c0:ai} (i:Nat) {c1:ai} (D:α→ai×ai) (h:af F W (b0::ds) w) (hi:ds[i]? =some r0)
  (h0:∀g,(ai.all [b0,r0]).on w g→c0.on w g) (hc:∀f,c0.on w f→Calls P fn args w (bD c1 val w f)) (h1:∀w' g,c1.on w' g→∃x,(ai.all [(D x).1,(D x).2]).on w' g):
  Calls P fn args w fun e w'=>e=.returned val∧∃x,af F W ((D x).1::ds.set i (D x).2) w':=by
 have k0:=(Ba i h hi).imp 0 (c':=c0) rfl h0;refine(k0.call 0 (c':=c1) rfl hc).mono ?_;rintro e w' ⟨he,k1⟩;obtain⟨x,k2⟩:=Eg (fun x=>ai.all [(D x).1,(D x).2]) k1 (h1 w');exact⟨he,x,Ac i (by exact(List.getElem?_eq_some_iff.1 hi).1) k2⟩
end
theorem rA:∀(N:Nat) (l:List Int),l.Nodup→(∀x∈l,1≤x∧x≤N)→l.length≤N
 |0,l,_,h=>by
  cases l with
  |nil=>simp
  |cons a l=>have:=h a (by simp);omega
 |N+1,l,hn,h=>by
  by_cases hm:((N+1:Nat):Int)∈l
  ·have hp:=List.perm_cons_erase hm;have hn2:(l.erase ((N+1:Nat):Int)).Nodup:=hn.erase _;have h2:=rA N (l.erase ((N+1:Nat):Int)) hn2 fun x hx=>by
    have:=h x (List.mem_of_mem_erase hx);have hne:x≠((N+1:Nat):Int):=fun e=>by subst e;exact(hn.not_mem_erase) hx
    omega
   rw[hp.length_eq,List.length_cons];omega
  ·have:=rA N l hn fun x hx=>by
    have:=h x hx;have hne:x≠((N+1:Nat):Int):=fun e=>hm (e▸hx)
    omega
   omega
def nB (ML:List (Int×Qt.Q)):Prop:=(ML.map (·.1)).Nodup∧∀x∈ML,1≤x.1∧x.1≤64
theorem nB.len {ML:List (Int×Qt.Q)} (h:nB ML):ML.length≤64:=by
 have:=rA 64 (ML.map (·.1)) h.1 fun x hx=>by
  obtain⟨y,hy,rfl⟩:=List.mem_map.1 hx;exact h.2 y hy
 simpa using this
theorem nB.set {ML:List (Int×Qt.Q)} (h:nB ML) {p:Int} (hp:1≤p∧p≤64) (q:Qt.Q):nB (Qt.zz p q ML):=by
 unfold Qt.zz;refine⟨?_,fun x hx=> ?_⟩
 ·rw[List.map_append,List.map_cons,List.map_nil,List.nodup_append];refine⟨(List.filter_sublist.map _).nodup h.1,by simp,fun x hx y hy e=> ?_⟩;rw[List.mem_singleton.1 hy]at e;obtain⟨z,hz,rfl⟩:=List.mem_map.1 hx;have:=(List.mem_filter.1 hz).2;rw[e]at this;simp at this
 ·rcases List.mem_append.1 hx with hx|hx
  ·exact h.2 x (List.mem_filter.1 hx).1
  ·rw[List.mem_singleton.1 hx];exact hp
end Go.Proofs.YtdehaommhbjakaaGreat
namespace Go.Proofs.YtdehaommhbjakaaGreat
open RowKit Stg
open Ty (aw fF)
def oM (e:Ext):Bool:=decide (0≤e.1)&&(decide (0<e.2)&&(decide (e.2≤1048576)&&decide (e.1≤1048576-e.2)))
theorem pr (e:Ext):oM e=true↔proper e:=by unfold oM proper;simp;omega
theorem nW (o l:Int) (w:World):Calls Tryz.prog 184 #[.agg #[.int .i64 o,.int .i64 l]] w fun e w'=>e=.returned (.bool (oM (o,l)))∧Mod [] w w':=by
 go_enter Tryz.func184,Tryz.ntmps184;go_wp2
 all_goals go_ret
 all_goals refine⟨?_,(Mod.refl _ _).alloc _⟩
 all_goals (first|(simp_all [oM];done)|(simp[oM];intros;omega))
theorem dV (o l:Int) (h0: -1000000000000≤o+l) (h1:o+l≤1000000000000) (w:World):Calls Tryz.prog 168 #[.agg #[.int .i64 o,.int .i64 l]] w fun e w'=>e=.returned (.int .i64 (o+l))∧Mod [] w w':=by
 go_enter Tryz.func168,Tryz.ntmps168;go_wp2;go_ret;exact⟨rfl,(Mod.refl _ _).alloc _⟩
theorem GO {e:Ext} (h:proper e) (w:World):Calls Tryz.prog 168 #[.agg #[.int .i64 e.1,.int .i64 e.2]] w fun r w'=>r=.returned (.int .i64 (e.1+e.2))∧Mod [] w w':=by
 unfold proper at h;exact dV e.1 e.2 (by omega) (by omega) w
theorem mf {w0:World} {v:Value} {s:List Ext} (h:aw w0 v s) (ty:TypeId) (w:World):(Builtin.len_ #[120] ty #[v]).run Tryz.prog w=.ok (.int .i64 s.length) w:=by
 rcases h with⟨rfl,rfl⟩|⟨sb,so,cap,rfl,_⟩<;>simp[Builtin.len_,run_underlying Tryz.underlying120,goInt]
theorem nX {w:World} {v:Value} {s:List Ext} (h:aw w v s):∃a m c,v=.slice a m c:=by
 rcases h with⟨rfl,_⟩|⟨sb,so,cap,rfl,_⟩<;>exact⟨_,_,_,rfl⟩
theorem pV {v:Value} {s:List Ext} {w:World} (h:aw w v s) (hs:VS s):Calls Tryz.prog 167 #[v] w fun e w'=>e=.returned (.bool true)∧Mod [] w w':=by
 have hln:=fun ty w=>mf h ty w
 have hsm:=h.small;have hH:=zh h;have hsH:=zh hs;clear h hs;go_enter Tryz.func167,Tryz.ntmps167;go_wp2_with fail;go_loopw [7] (fun i wr=>∃k:Nat,k≤s.length∧i=.int .i64 k∧Mod [] w wr) (fun i _=>s.length-(intOf i).toNat)
 case atStart=>exact⟨0,by omega,rfl,Mod.refl _ _⟩
 case round=>
  obtain⟨k,hk,rfl,hm⟩:=hrel;by_cases hlt:k<s.length
  ·have hg:=fF (hH.out.mod hm) hlt;obtain⟨sb,so,cap,rfl,hb,c0,c1⟩:=hg;have hp:=hsH.out.1 s[k] (List.getElem_mem hlt);have jX:=(pr s[k]).2 hp;have hm2:=hm.alloc (.cells #[.int .i64 s[k].1,.int .i64 s[k].2] 104);have hx:=an wr (.cells #[.int .i64 s[k].1,.int .i64 s[k].2] 104);have hpre:0<k→∃c d:Int,(wr.alloc (.cells #[.int .i64 s[k].1,.int .i64 s[k].2] 104)).cell? ⟨sb,so+(k-1)*2,none⟩=some (.int .i64 c)∧(wr.alloc (.cells #[.int .i64 s[k].1,.int .i64 s[k].2] 104)).cell? ⟨sb,so+(k-1)*2+1,none⟩=some (.int .i64 d)∧proper (c,d)∧c+d<s[k].1:=fun h0=>by
    obtain⟨sb',so',cap',e,_,d0,d1⟩:=fF (hH.out.mod hm2) (show k-1<s.length by omega);cases e;exact⟨_,_,d0,d1,hsH.out.1 _ (List.getElem_mem _),List.pairwise_iff_getElem.1 hsH.out.2 (k-1) k (by omega) hlt (by omega)⟩
   have hbl:sb<(wr.alloc (.cells #[.int .i64 s[k].1,.int .i64 s[k].2] 104)).heap.size:=by simp;omega
   generalize s[k]=x at*;obtain⟨xo,xl⟩:=x;simp only at c0 c1 hp hpre hx hm2 jX hbl;have hmH:=zh hm2;have hxH:=zh hx;have hpreH:=zh hpre;have hblH:=zh hbl;clear hm hm2 hx hpre hbl hb;go_wp2_with fail;clear c0 c1;generalize wr.heap.size=bx at*;generalize wr.alloc (.cells #[.int .i64 xo,.int .i64 xl] 104)=W2 at*;have k1:=GW.cells (S:=[]) hxH.out (by simp);by_cases h0:k=0
   ·subst h0;refine aS (by kernel_rfl) (by kernel_rfl) ?_;refine sq 1 ?_;refine b7 184 _ (.bool true) rfl Tryz.call184 rfl rfl (fun w' _=>(nW xo xl w').mono fun e w'' ⟨he,hm⟩=>⟨by rw[he,jX],hm⟩) ?_;refine sq 12 ?_;refine iS rfl ?_;simp only[Act.put,sA,sB,sC];refine sq 3 ?_;refine au fun w5 hm5=> ?_
    have hm6:=zh (hmH.out.ag hm5);clear hm5;go_wp2_with fail;go_roundw
    case rel=>exact⟨_,hlt,by go_num,hm6.out⟩
    case measure=>simp[intOf];omega
   ·obtain⟨c,d,d0,d1,hpc,hcd⟩:=hpreH.out (by omega);have kd0:=GW.bR (S:=[]) d0 hblH.out (by simp);have kd1:=GW.bR (S:=[]) d1 hblH.out (by simp);have hk1:(k:Int)-1=((k-1:Nat):Int):=by omega
    have hkl:k-1<s.length:=by omega
    have hgt:decide (0<k)=true:=by rw[decide_eq_true_eq];omega
    have hcdB:decide (xo≤c+d)=false:=by rw[decide_eq_false_iff_not];omega
    clear d0 d1;refine aS (by kernel_rfl) (by kernel_rfl) ?_;refine sq 1 ?_;refine b7 184 _ (.bool true) rfl Tryz.call184 rfl rfl (fun w' _=>(nW xo xl w').mono fun e w'' ⟨he,hm⟩=>⟨by rw[he,jX],hm⟩) ?_;refine sq 12 ?_;refine b7 168 _ (.int .i64 (c+d)) rfl Tryz.call168 rfl rfl (fun w' _=>GO (e:=(c,d)) hpc w') ?_;simp only[Act.put,sA,sB,sC];refine sq 3 ?_;refine au fun w5 hm5=> ?_
    have hm6:=zh (hmH.out.ag hm5);clear hm5;go_wp2_with fail;go_roundw
    case rel=>exact⟨_,hlt,by go_num,hm6.out⟩
    case measure=>simp[intOf];omega
  ·obtain rfl:k=s.length:=by omega
   have hmH:=zh hm;clear hm;go_wp2_with fail;go_ret;exact⟨rfl,hmH.out⟩
theorem CD (n:Nat) (hn:n≤1000000) (g:Nat) (lb:Array Value) (q:Nat→Bool) (w:World) (eg:∀args w,(callFunc g args).run Tryz.prog w=.ok (.enter g args) w)
  (hq:∀i,i<n→∀W,Mod [] w W→Calls Tryz.prog g (#[.int .i64 i]++lb) W fun e W'=>e=.returned (.bool (q i))∧Mod [] W W') (mono:∀i j,i≤j→j<n→q i=true→q j=true):
  Calls Tryz.prog 201 #[.int .i64 n,.func (.func g) #[] lb] w fun e w'=>∃m:Nat,e=.returned (.int .i64 m)∧m≤n∧(∀i,i<m→q i=false)∧(∀i,m≤i→i<n→q i=true)∧Mod [] w w':=by
 have hqH:=zh hq;have hmo:=zh mono;clear hq mono;go_enter Tryz.func201,Tryz.ntmps201;go_wp2_with fail;go_loopw [5,6] (fun iv jv wr=>∃i j:Nat,i≤j∧j≤n∧iv=.int .i64 i∧jv=.int .i64 j∧(∀k,k<i→q k=false)∧(∀k,j≤k→k<n→q k=true)∧Mod [] w wr) (fun iv jv _=>(intOf jv-intOf iv).toNat)
 case atStart=>exact⟨0,n,by omega,by omega,rfl,rfl,by simp,fun k h1 h2=>by omega,Mod.refl _ _⟩
 case round=>
  obtain⟨i,j,hij,hj,rfl,rfl,h1,h2,hm⟩:=hrel;have h1H:=zh h1;have h2H:=zh h2;have hmH:=zh hm;clear h1 h2 hm;by_cases hlt:i<j
  ·obtain⟨t,ht⟩:∃t,(i+j)/2=t:=⟨_,rfl⟩;have he:((i:Int)+j)/2=(t:Int):=by omega
   have htr:i≤t∧t<j:=by omega
   have hlt':decide ((i:Int)<j)=true:=by rw[decide_eq_true_eq];omega
   have heH:=zh he;clear he ht;go_wp2_with fail;rw[heH.out];refine(hqH.out t (by omega) wr hmH.out).mono ?_;rintro e w1 ⟨rfl,hm1⟩;have hm2:=zh (hmH.out.ag hm1);obtain⟨b,hb⟩:∃b,q t=b:=⟨_,rfl⟩;rw[hb];have hbH:=zh hb;clear hm1 hb;cases b
   ·go_wp2_with fail;go_roundw
    case rel=>exact⟨t+1,j,by omega,hj,by go_num,rfl,fun k hk=>Bool.eq_false_iff.2 fun hq=>absurd ((hmo.out k t (by omega) (by omega) hq).symm.trans hbH.out) (by simp),h2H.out,hm2.out⟩
    case measure=>simp[intOf];omega
   ·go_wp2_with fail;go_roundw
    case rel=>exact⟨i,t,by omega,by omega,rfl,by go_num,h1H.out,fun k h1 h2=>hmo.out t k h1 h2 hbH.out,hm2.out⟩
    case measure=>simp[intOf];omega
  ·obtain rfl:i=j:=by omega
   go_wp2_with fail;go_ret;exact⟨i,rfl,hj,h1H.out,h2H.out,hmH.out⟩
theorem DC {v:Value} {s:List Ext} {off:Int} {sb ob:Nat} {w:World} (hv:aw w v s) (hs:VS s) (h1:w.heap[sb]? =some (.cells #[v] 120 (0,0))) (h2:w.heap[ob]? =some (.cells #[.int .i64 off] 3 (0,0))) (i:Nat) (hi:i<s.length) (W:World) (hW:Mod [] w W):
  Calls Tryz.prog 202 (#[.int .i64 i]++#[.pointer (some ⟨sb,0,none⟩),.pointer (some ⟨ob,0,none⟩)]) W fun e W'=>e=.returned (.bool (decide (off<s[i].1+s[i].2)))∧Mod [] W W':=by
 obtain⟨xb,xo,cap,rfl,hb,c0,c1⟩:=fF (hv.mod hW) hi;have hp:=hs.1 s[i] (List.getElem_mem hi);have k1:=GW.cells (S:=[]) (hW.at h1 (by simp)) (by simp);have k2:=GW.cells (S:=[]) (hW.at h2 (by simp)) (by simp);have k3:=GW.bR (S:=[]) c0 hb (by simp);have k4:=GW.bR (S:=[]) c1 hb (by simp);generalize s[i]=x at*;obtain⟨eo,el⟩:=x;have hbd: -1000000000000≤eo+el∧eo+el≤1000000000000:=by unfold proper at hp;simp only at hp;omega
 clear hv hs h1 h2 hb c0 c1 hp;show Calls Tryz.prog 202 #[.int .i64 i,.pointer (some ⟨sb,0,none⟩),.pointer (some ⟨ob,0,none⟩)] W _;go_enter Tryz.func202,Tryz.ntmps202;go_wp2_with fail;refine aS (by kernel_rfl) (by kernel_rfl) ?_;refine sq 4 ?_;refine b7 168 _ (.int .i64 (eo+el)) rfl Tryz.call168 rfl rfl (fun w' _=>dV eo el hbd.1 hbd.2 w') ?_;refine sq 3 ?_;refine au fun w5 hm5=> ?_
 go_wp2_with fail;go_ret;exact⟨rfl,hm5⟩
theorem sX {v:Value} {s:List Ext} {w:World} (h:aw w v s) (hs:VS s) (hl:s.length≤1000000) (off:Int):
  Calls Tryz.prog 191 #[v,.int .i64 off] w fun e w'=>∃m:Nat,e=.returned (.int .i64 m)∧m≤s.length∧(∀i (hi:i<s.length),i<m→s[i].1+s[i].2≤off)∧(∀i (hi:i<s.length),m≤i→off<s[i].1+s[i].2)∧Mod [] w w':=by
 obtain⟨va,vm,vc,hve⟩:=nX h;subst hve;have hln:=fun ty w=>mf h ty w
 have hm0:Mod [] w ((w.alloc (.cells #[.slice va vm vc] 120)).alloc (.cells #[.int .i64 off] 3)):=((Mod.refl [] w).alloc _).alloc _;have z1:(w.alloc (.cells #[.slice va vm vc] 120)).heap.size=w.heap.size+1:=by simp
 have b0:=aI (o:=.cells #[.int .i64 off] 3) (an w (.cells #[.slice va vm vc] 120));have b1:=an (w.alloc (.cells #[.slice va vm vc] 120)) (.cells #[.int .i64 off] 3);rw[z1]at b1;have hS:=CD s.length hl 202 #[.pointer (some ⟨w.heap.size,0,none⟩),.pointer (some ⟨w.heap.size+1,0,none⟩)] (fun i=>if h:i<s.length then decide (off<s[i].1+s[i].2)else true) _ Tryz.call202
  (fun i hi W hW=>by
   have:=DC (h.mod hm0) hs b0 b1 i hi W hW;rw[dif_pos hi];exact this)
  (fun i j hij hj hq=>by
   have hi:i<s.length:=by omega
   rw[dif_pos hi,decide_eq_true_eq]at hq;rw[dif_pos hj,decide_eq_true_eq];by_cases e:i=j
   ·subst e;exact hq
   ·have h1:=List.pairwise_iff_getElem.1 hs.2 i j hi hj (by omega);have h2:=hs.1 _ (List.getElem_mem hj);unfold proper at h2;omega)
 have hSH:=zh hS;have hmH:=zh hm0;have hcs:=ae b0;clear hS hm0 z1 b0 b1;go_enter Tryz.func191,Tryz.ntmps191;go_wp2_with fail;refine hSH.out.mono ?_;rintro e w1 ⟨m,rfl,hm,k1,k2,hm1⟩;have k1H:=zh k1;have k2H:=zh k2;have hm2:=zh (hmH.out.ag hm1);clear k1 k2 hm1 hSH hcs;go_wp2_with fail;go_ret;refine⟨m,rfl,hm,fun i hi hlt=> ?_,fun i hi hge=> ?_,hm2.out⟩
 ·have:=k1H.out i hlt;rw[dif_pos hi,decide_eq_false_iff_not]at this;omega
 ·have:=k2H.out i hge hi;rw[dif_pos hi,decide_eq_true_eq]at this;exact this
end Go.Proofs.YtdehaommhbjakaaGreat
