/- Joined contracts. No conditions. -/
import Derived.Test.YtdehaommhbjakaaGreatC15
set_option maxHeartbeats 4000000
namespace Go.Proofs.YtdehaommhbjakaaGreat.Bw
open RowKit Stg
def fz (w:World) (c:Nat) (L:List ak):Prop:=∃es ck,w.heap[c]? =some (.map es ck)∧cL es.toList∧∀o,bU o es.toList=if aW L o=[]then none else some (.int .i64 ((aW L o).length:Nat))
theorem fz.mod {S:List Nat} {w w':World} {c:Nat} {L:List ak} (h:fz w c L) (hm:Mod S w w') (hS:c∉S):fz w' c L:=by
 obtain⟨es,ck,h1,h2⟩:=h;exact⟨es,ck,hm.at h1 hS,h2⟩
theorem fz.lt {w:World} {c:Nat} {L:List ak} (h:fz w c L):c<w.heap.size:=by
 obtain⟨es,ck,h1,h2⟩:=h;exact aL h1
def dz (w:World) (b:Nat) (L:List ak) (f:List Nat):Prop:=
 (w.heap[b]? =some (.cells #[.map none,.map none] 159 (0,0))∧L=[]∧f=[b])∨
 ∃a c bs,w.heap[b]? =some (.cells #[.map (some a),.map (some c)] 159 (0,0))∧a≠b∧c≠b∧a≠c∧dg w a bs∧bs.Perm L∧fz w c L∧f=[b,a,c]
theorem dz.bj {w w':World} {b:Nat} {L:List ak} {f T:List Nat} (h:dz w b L f) (hm:Mod T w w') (hT:∀x∈f,x∉T):dz w' b L f:=by
 rcases h with⟨h1,h2,rfl⟩|⟨a,c,bs,h1,h2,h3,h4,h5,h6,h7,rfl⟩
 ·exact .inl ⟨hm.at h1 (hT b (by simp)),h2,rfl⟩
 ·exact .inr ⟨a,c,bs,hm.at h1 (hT b (by simp)),h2,h3,h4,h5.mod hm (hT a (by simp)),h6,h7.mod hm (hT c (by simp)),rfl⟩
theorem dz.lt {w:World} {b:Nat} {L:List ak} {f:List Nat} (h:dz w b L f):∀x∈f,x<w.heap.size:=by
 rcases h with⟨h1,h2,rfl⟩|⟨a,c,bs,h1,h2,h3,h4,h5,h6,h7,rfl⟩
 ·intro x hx;simp at hx;subst hx;exact aL h1
 ·intro x hx;simp at hx;rcases hx with rfl|rfl|rfl
  ·exact aL h1
  ·exact h5.lt
  ·exact h7.lt
def eu (b:Nat) (L:List ak):ai:=⟨fun w f=>dz w b L f,dz.bj,dz.lt⟩
structure yH (w:World) (b:Nat) (m1 m2:Value) (bs L:List ak):Prop where
 aQ:w.heap[b]? =some (.cells #[m1,m2] 159 (0,0))
 map:jB w m1 bs
 perm:bs.Perm L
 lj:∀W,Mod [] w W→∀o,(Instr.lookup 140 m2 (.int .i64 o) false).run Tryz.prog W=.ok (.int .i64 ((aW L o).length:Nat)) W
theorem dz.seen {w:World} {b:Nat} {L:List ak} {f:List Nat} (h:dz w b L f):∃m1 m2 bs,yH w b m1 m2 bs L:=by
 rcases h with⟨h1,rfl,rfl⟩|⟨a,c,bs,h1,h2,h3,h4,h5,h6,⟨es,ck,k1,k2,k3⟩,rfl⟩
 ·refine⟨_,_,[],h1,.inl ⟨rfl,rfl⟩,List.Perm.refl _,fun W hW o=> ?_⟩;rw[qY Tryz.underlying140 Tryz.underlying3 Tryz.zeroValue3];rfl
 ·refine⟨_,_,bs,h1,.inr ⟨a,rfl,h5⟩,h6,fun W hW o=> ?_⟩;rw[jG Tryz.underlying140 Tryz.underlying3 Tryz.zeroValue3 (hW.at k1 (by simp)) k2,k3];split
  ·rename_i h;rw[h];rfl
  ·rfl
def gD (w:World) (p:Option Addr) (L:List ak):Prop:=(p=none∧L=[])∨∃b f,p=some ⟨b,0,none⟩∧dz w b L f
theorem gD.of {w:World} {b:Nat} {L:List ak} {f:List Nat} (h:dz w b L f):gD w (some ⟨b,0,none⟩) L:=.inr ⟨b,f,rfl,h⟩
theorem gD.mod {w w':World} {p:Option Addr} {L:List ak} (h:gD w p L) (hm:Mod [] w w'):gD w' p L:=by
 rcases h with h|⟨b,f,h1,h2⟩
 ·exact .inl h
 ·exact .inr ⟨b,f,h1,h2.bj hm (by simp)⟩
theorem gD.cases {w:World} {p:Option Addr} {L:List ak} (h:gD w p L):(p=none∧L=[])∨∃b m1 m2 bs,p=some ⟨b,0,none⟩∧yH w b m1 m2 bs L:=by
 rcases h with h|⟨b,f,h1,h2⟩
 ·exact .inl h
 ·obtain⟨m1,m2,bs,h3⟩:=h2.seen;exact .inr ⟨b,m1,m2,bs,h1,h3⟩
theorem EU (w:World) (g:Nat) (lb:Array Value):Calls Tryz.prog 185 #[.pointer none,.func (.func g) #[] lb] w fun e w'=>e=.returned (.slice none 0 0)∧Mod [] w w':=by
 go_enter Tryz.func185,Tryz.ntmps185;go_wp2;go_ret;exact⟨rfl,((Mod.refl [] w).alloc _).alloc _⟩
theorem Ea {w:World} {p:Option Addr} {L:List ak} (h:gD w p L) (hS:di L) (hl:L.length≤1000000) {g:Nat} {lb:Array Value} {q:ak→Bool}
  (hJ:tH w g lb q) (eg:∀args w,(callFunc g args).run Tryz.prog w=.ok (.enter g args) w):
  Calls Tryz.prog 185 #[.pointer p,.func (.func g) #[] lb] w fun e w'=>∃v,e=.returned v∧w'.ownsRow w.heap.size 222 4 v (L.filter q).length (flat cZ (L.filter q))∧Mod [] w w':=by
 rcases h.cases with⟨rfl,rfl⟩|⟨b,m1,m2,bs,rfl,hs⟩
 ·exact(EU w g lb).mono fun e w' ⟨he,hm⟩=>⟨_,he,World.ownsRow_nil _ _ _ _,hm⟩
 ·exact FF hs.aQ hs.map hs.perm hS hl hJ eg
theorem Bc {w:World} {r:Nat} {o:Int} (h:w.heap[r]? =some (.cells #[.int .i64 o] 3 (0,0))):tH w 186 #[.pointer (some ⟨r,0,none⟩)] (fun x=>decide (x.1.1=o)):=by
 rintro⟨⟨xo,xh⟩,xm,xc⟩ W hW;have h1:=aI (o:=.cells #[.int .i64 xo,.int .i64 xh,.int .i64 xm,.int .i64 xc] 222) (hW.at h (by simp));have hc:=ae h1;have hm:=(Mod.refl [] W).alloc (.cells #[.int .i64 xo,.int .i64 xh,.int .i64 xm,.int .i64 xc] 222);unfold bv;have he:decide (xo=o)=(xo==o):=by by_cases h:xo=o<;>simp[h]
 show Calls _ _ _ _ fun e W'=>e=.returned (.bool (decide (xo=o)))∧Mod [] W W'
 rw[he];have hmH:=zh hm;clear h h1 hm he hW;go_enter Tryz.func186,Tryz.ntmps186;go_wp2_with fail;go_ret;exact⟨rfl,hmH.out⟩
theorem tN {w:World} {p:Option Addr} {L:List ak} (h:gD w p L) (hS:di L) (hl:L.length≤1000000) (o:Int):
  Calls Tryz.prog 173 #[.pointer p,.int .i64 o] w fun e w'=>∃v,e=.returned v∧w'.ownsRow w.heap.size 222 4 v (aW L o).length (flat cZ (aW L o))∧Mod [] w w':=by
 have hb:=an w (.cells #[.int .i64 o] 3);have hm:=(Mod.refl [] w).alloc (.cells #[.int .i64 o] 3);have hf:=zh (Ea (h.mod hm) hS hl (Bc hb) (enters_of Tryz.func186 (by kernel_rfl) rfl));have hmH:=zh hm;clear h hb hm;go_enter Tryz.func173,Tryz.ntmps173;go_wp2_with fail;refine hf.out.mono ?_;rintro e w' ⟨v,rfl,hr,hm'⟩;have hr':=zh (aE hr (show w.heap.size≤(w.alloc (.cells #[.int .i64 o] 3)).heap.size by simp));have hm2:=zh (hmH.out.ag hm');clear hr hm';go_wp2_with fail;go_ret;exact⟨v,rfl,hr'.out,hm2.out⟩
theorem uE {bs L:List ak} (hp:bs.Perm L) (hS:di L) (k:Int×Int):aK bs k=aK L k:=by
 have hn:(bs.map (·.1)).Nodup:=((hp.map (·.1)).nodup_iff).2 hS.nodup
 cases hg:aK L k with
 |none=>
  cases hg2:aK bs k with
  |none=>rfl
  |some b=>
   obtain⟨h1,h2⟩:=iF hg2;exact absurd h2 (sE hg b (hp.subset h1))
 |some b=>
  obtain⟨h1,h2⟩:=iF hg;have:=yC hn (hp.symm.subset h1);rw[h2]at this;exact this
theorem GD {w:World} {mv:Value} {bs:List ak} (h:jB w mv bs) (k:Int×Int):(Instr.lookup 157 mv (.agg #[.int .i64 k.1,.int .i64 k.2]) true).run Tryz.prog w=.ok (fO (aK bs k)) w:=by
 rcases h with⟨rfl,rfl⟩|⟨mb,rfl,h⟩
 ·exact look_nil w k
 ·exact ns h k
def nG (L:List ak) (k:Int×Int):ak:=(aK L k).getD b0
theorem pY (o:Option ak):fO o=.tuple #[bv (o.getD b0),.bool o.isSome]:=by cases o<;>rfl
theorem qh {w:World} {p:Option Addr} {L:List ak} (h:gD w p L) (hS:di L) (o k:Int):
  Calls Tryz.prog 127 #[.pointer p,.int .i64 o,.int .i64 k] w fun e w'=>e=.returned (fO (aK L (o,k)))∧Mod [] w w':=by
 have hm:=zh ((Mod.refl [] w).alloc (.cells #[.int .i64 0,.int .i64 0,.int .i64 0,.int .i64 0] 222));have hb:=an w (.cells #[.int .i64 0,.int .i64 0,.int .i64 0,.int .i64 0] 222);rcases h.cases with⟨rfl,rfl⟩|⟨b,m1,m2,bs,rfl,hs⟩
 ·clear h hS;go_enter Tryz.func127,Tryz.ntmps127;go_wp2_with fail;exact bodyPost_ret (v:=.tuple #[.agg #[.int .i64 0,.int .i64 0,.int .i64 0,.int .i64 0],.bool false]) (by simp[results,Tryz.results127,go_sem]) rfl ⟨rfl,by repeat (first|exact Mod.refl _ _|(refine Mod.setCell ?_ (.inr (by simp)) _)|refine Mod.alloc ?_ _)⟩
 ·have hl:=GD (hs.map.bj (w':=w.alloc (.cells #[.int .i64 0,.int .i64 0,.int .i64 0,.int .i64 0] 222)) fun mb hmb=>RowKit.Below.heap_alloc _ _ _ (hs.map.lt mb hmb)) (o,k);rw[uE hs.perm hS,pY]at hl;rw[pY];generalize((aK L (o,k)).getD b0)=x at*;generalize(aK L (o,k)).isSome=fl at*;obtain⟨⟨xo,xh⟩,xm,xc⟩:=x;unfold bv at*;have hcb:=ae (aI (o:=.cells #[.int .i64 0,.int .i64 0,.int .i64 0,.int .i64 0] 222) hs.aQ);clear h hS hs;go_enter Tryz.func127,Tryz.ntmps127;go_wp2_with fail;exact bodyPost_ret (v:=.tuple #[.agg #[.int .i64 xo,.int .i64 xh,.int .i64 xm,.int .i64 xc],.bool fl]) (by simp[results,Tryz.results127,go_sem]) rfl ⟨rfl,by repeat (first|exact Mod.refl _ _|(refine Mod.setCell ?_ (.inr (by simp)) _)|refine Mod.alloc ?_ _)⟩
theorem Bn {L:List ak} {o:Int} {b:ak} {l:List ak} (h:aW L o=b::l):dy L o=b.2.1:=by unfold dy;rw[h]
theorem yA {w:World} {p:Option Addr} {L:List ak} (h:gD w p L) (hS:di L) (hl:L.length≤1000000) (o:Int):
  Calls Tryz.prog 141 #[.pointer p,.int .i64 o] w fun e w'=>e=.returned (.int .i64 (dy L o))∧Mod [] w w':=by
 rcases h.cases with⟨rfl,rfl⟩|⟨b,m1,m2,bs,rfl,hs⟩
 ·clear h hS hl;show Calls _ _ _ _ fun e w'=>e=.returned (.int .i64 0)∧Mod [] w w'
  go_enter Tryz.func141,Tryz.ntmps141;go_wp2_with fail;go_ret;exact⟨rfl,Mod.refl _ _⟩
 ·have hlk:=hs.lj w (Mod.refl _ _) o;have hcb:=ae hs.aQ;have hof:=zh (tN h hS hl o)
  cases hc:aW L o with
  |nil=>
   have hz:dy L o=0:=by unfold dy;rw[hc]
   rw[hc]at hlk;rw[hz];simp only[List.length_nil]at hlk;clear h hS hl hs hof hc hz;go_enter Tryz.func141,Tryz.ntmps141;go_wp2_with fail;go_ret;exact⟨rfl,Mod.refl _ _⟩
  |cons x l=>
   have hz:=Bn hc;rw[hc]at hlk hof;rw[hz];obtain⟨n,hn⟩:∃n:Int,(((x::l).length:Nat):Int)=n:=⟨_,rfl⟩;rw[hn]at hlk;have hne:(n==0)=false:=by simp at hn⊢;omega
   obtain⟨⟨xo,xh⟩,xm,xc⟩:=x;clear h hS hl hs hc hz;go_enter Tryz.func141,Tryz.ntmps141;go_wp2_with fail;refine hof.out.mono ?_;rintro e w' ⟨v,rfl,hr,hm⟩;obtain⟨g,cap,rfl,hg1,hg2⟩:=cW hr (by simp);have hcell:w'.cell? ⟨g,2,none⟩=some (.int .i64 xm):=hr.cellAt 2 (by simp;omega);have hcap:0<l.length+1:=by omega
   have hmH:=zh hm;clear hr hm hlk hcb;go_wp2_with fail;go_ret;exact⟨rfl,hmH.out⟩
def kZ (L:List ak) (o k:Int) (owner:Bool) (a:Int):Int:=
 if a<1∨4<a then 1 else if owner then(if dy L o=2∨(dy L o=1∧(a=2∨a=3))then 14 else 0)
 else if a=3∨a=4∨(aK L (o,k)).isSome=false then 13 else if(nG L (o,k)).2.1=1∧a=2 then 14 else 0
theorem Dw {w:World} {p:Option Addr} {L:List ak} {N:Int} (h:gD w p L) (hI:dF N L) (hl:L.length≤1000000) (o k:Int) (owner:Bool) (a:Int):
  Calls Tryz.prog 84 #[.pointer p,.int .i64 o,.int .i64 k,.bool owner,.int .i64 a] w fun e w'=>e=.returned (.int .i64 (kZ L o k owner a))∧Mod [] w w':=by
 have hmo:=zh (yA h hI.gE hl o);have hho:=qh h hI.gE o k;have hmr:=pA hI o;rw[pY]at hho;have hmd:(aK L (o,k)).isSome=true→(nG L (o,k)).2.1=1∨(nG L (o,k)).2.1=2:=fun hh=>by
  unfold nG
  cases hg:aK L (o,k)with
  |none=>rw[hg]at hh;cases hh
  |some b=>exact hI.mode b (iF hg).1
 obtain⟨E,hE⟩:∃E,kZ L o k owner a=E:=⟨_,rfl⟩;rw[hE];unfold kZ at hE;change Calls _ _ _ _ (fun e w'=>e=.returned (.tuple #[bv (nG L (o,k)),_])∧_)at hho;generalize nG L (o,k)=x at*;generalize(aK L (o,k)).isSome=fl at*;generalize dy L o=m at*;obtain⟨⟨xo,xh⟩,xm,xc⟩:=x;have hEH:=zh hE;have hho:=zh hho;simp only at hmd;clear h hI hl hE;by_cases ha1:a<1
 ·obtain rfl:1=E:=by have:=hEH.out;rw[if_pos (.inl ha1)]at this;exact this
  clear hEH;go_enter Tryz.func84,Tryz.ntmps84;go_wp2_with fail;go_ret;exact⟨rfl,Mod.refl _ _⟩
 ·by_cases ha4:4<a
  ·obtain rfl:1=E:=by have:=hEH.out;rw[if_pos (.inr ha4)]at this;exact this
   clear hEH;go_enter Tryz.func84,Tryz.ntmps84;go_wp2_with fail;go_ret;exact⟨rfl,Mod.refl _ _⟩
  ·have ha:a=1∨a=2∨a=3∨a=4:=by omega
   have hE:=hEH.out;rw[if_neg (by omega)]at hE;clear ha1 ha4 hEH
   cases owner with
   |true=>
    simp only[if_true]at hE;clear hho hmd;rcases ha with rfl|rfl|rfl|rfl<;>rcases hmr with rfl|rfl|rfl<;>simp at hE<;>subst hE<;>
    ·go_enter Tryz.func84,Tryz.ntmps84;go_wp2_with fail;refine hmo.out.mono ?_;rintro e w' ⟨rfl,hm⟩;have hmH:=zh hm;clear hm;go_wp2_with fail;go_ret;exact⟨rfl,hmH.out⟩
   |false=>
    simp only[Bool.false_eq_true,if_false]at hE;clear hmo hmr
    cases fl with
    |false=>
     rw[if_pos (by simp)]at hE;subst hE;rcases ha with rfl|rfl|rfl|rfl<;>
     ·go_enter Tryz.func84,Tryz.ntmps84;go_wp2_with fail;refine hho.out.mono ?_;rintro e w' ⟨rfl,hm⟩;have hmH:=zh hm;unfold bv;clear hm;go_wp2_with fail;go_ret;exact⟨rfl,hmH.out.alloc _⟩
    |true=>
     have hmd:=hmd rfl;rcases ha with rfl|rfl|rfl|rfl<;>rcases hmd with rfl|rfl<;>simp at hE<;>subst hE<;>
     ·go_enter Tryz.func84,Tryz.ntmps84;go_wp2_with fail;refine hho.out.mono ?_;rintro e w' ⟨rfl,hm⟩;have hmH:=zh hm;unfold bv;clear hm;go_wp2_with fail;go_ret;exact⟨rfl,hmH.out.alloc _⟩
end Go.Proofs.YtdehaommhbjakaaGreat.Bw
namespace Go.Proofs.YtdehaommhbjakaaGreat.Qt
open RowKit Stg
structure Q where
 b:Int
 o:Int
 r:Int
def Q.zero:Q:=⟨0,0,0⟩
def qv (q:Q):Value:=.agg #[.int .i64 q.b,.int .i64 q.o,.int .i64 q.r]
def Q.i64 (q:Q):Prop:=(-9223372036854775808≤q.b∧q.b≤9223372036854775807)∧(-9223372036854775808≤q.o∧q.o≤9223372036854775807)∧(-9223372036854775808≤q.r∧q.r≤9223372036854775807)
def Q.pos (q:Q):Prop:=(0≤q.b∧q.b≤9223372036854775807)∧(0≤q.o∧q.o≤9223372036854775807)∧(0≤q.r∧q.r≤9223372036854775807)
def Q.add (x q:Q):Q:=⟨x.b+q.b,x.o+q.o,x.r+q.r⟩
def Q.sub (x q:Q):Q:=⟨x.b-q.b,x.o-q.o,x.r-q.r⟩
def gT (q:Q):Bool:=decide (q.b<0)||decide (q.o<0)||decide (q.r<0)
def kh (a b l:Int):Bool:=decide (a≤l)&&decide (b≤l-a)
def cj (l x q:Q):Int:=if gT q=true then 1 else if kh x.b q.b l.b=true∧kh x.o q.o l.o=true∧kh x.r q.r l.r=true then 0 else 16
def mG (x q:Q):Bool:=decide (x.b<q.b)||decide (x.o<q.o)||decide (x.r<q.r)
def kp (x q:Q):Int:=if gT q=true∨mG x q=true then 1 else 0
def fS (f:Int→Q) (p:Int) (v:Q):Int→Q:=fun k=>if k=p then v else f k
theorem sU (a b l:Int) (w:World) (h0:0≤a) (h1:a≤9223372036854775807) (h2: -9223372036854775808≤l) (h3:l≤9223372036854775807):
  Calls Tryz.prog 152 #[.int .i64 a,.int .i64 b,.int .i64 l] w fun e w'=>e=.returned (.bool (kh a b l))∧Mod [] w w':=by
 go_enter Tryz.func152,Tryz.ntmps152;go_wp2
 all_goals go_ret
 all_goals refine⟨?_,Mod.refl _ _⟩
 all_goals (simp[kh];try omega)
theorem pq (q:Q) (w:World):Calls Tryz.prog 151 #[.agg #[.int .i64 q.b,.int .i64 q.o,.int .i64 q.r]] w fun e w'=>e=.returned (.bool (gT q))∧Mod [] w w':=by
 obtain⟨a,b,c⟩:=q;go_enter Tryz.func151,Tryz.ntmps151;go_wp2
 all_goals go_ret
 all_goals refine⟨?_,(Mod.refl _ _).alloc _⟩
 all_goals (simp[gT];try omega)
def gN (w:World) (mo:Option Nat) (f:Int→Q):Prop:=
 match mo with
 |none=>∀k,f k=Q.zero
 |some bm=>∃es c,w.heap[bm]? =some (.map es c)∧cL es.toList∧∀k,(bU k es.toList).getD (qv Q.zero)=qv (f k)
structure jj (w:World) (b:Nat) (mo:Option Nat) (l:Q) (f:Int→Q):Prop where
 lim:l.i64
 has:∀k,(f k).pos
 aQ:w.heap[b]? =some (.cells #[.int .i64 l.b,.int .i64 l.o,.int .i64 l.r,.map mo] 145 (0,0))
 map:gN w mo f
 ne:mo≠some b
theorem gN.bj {w w':World} {mo:Option Nat} {f:Int→Q} (h:gN w mo f) (hk:∀x,mo=some x→w'.heap[x]? =w.heap[x]?):gN w' mo f:=by
 cases mo with
 |none=>exact h
 |some bm=>
  obtain⟨es,c,h1,h2,h3⟩:=h;exact⟨es,c,(hk bm rfl).trans h1,h2,h3⟩
theorem gN.lt {w:World} {mo:Option Nat} {f:Int→Q} (h:gN w mo f):∀x,mo=some x→x<w.heap.size:=by
 cases mo with
 |none=>intro x hx;cases hx
 |some bm=>
  obtain⟨es,c,h1,_⟩:=h;intro x hx;obtain rfl:=Option.some.inj hx;exact aL h1
theorem gN.mod {S:List Nat} {w w':World} {mo:Option Nat} {f:Int→Q} (h:gN w mo f) (hm:Mod S w w') (hS:∀x,mo=some x→x∉S):gN w' mo f:=
 h.bj fun x hx=>hm.block x (h.lt x hx) (hS x hx)
theorem jj.mod {S:List Nat} {w w':World} {b:Nat} {mo:Option Nat} {l:Q} {f:Int→Q} (h:jj w b mo l f) (hm:Mod S w w') (hS:∀x,x∈b::mo.toList→x∉S):jj w' b mo l f:=
 ⟨h.lim,h.has,hm.at h.aQ (hS b (by simp)),h.map.mod hm (fun x hx=>hS x (by simp[hx])),h.ne⟩
theorem gN.look {w:World} {mo:Option Nat} {f:Int→Q} (h:gN w mo f) (k:Int):
  (Instr.lookup 143 (.map mo) (.int .i64 k) false).run Tryz.prog w=.ok (.agg #[.int .i64 (f k).b,.int .i64 (f k).o,.int .i64 (f k).r]) w:=by
 cases mo with
 |none=>rw[qY (z:=qv Q.zero) Tryz.underlying143 Tryz.underlying3 (fun w=>Tryz.zeroValue45 w) w k,h k];rfl
 |some bm=>
  obtain⟨es,c,h1,h2,h3⟩:=h;rw[jG (z:=qv Q.zero) Tryz.underlying143 Tryz.underlying3 (fun w=>Tryz.zeroValue45 w) h1 h2 k,h3 k];rfl
theorem sO (p:Int) (q l:Q) (b:Nat) (mo:Option Nat) (f:Int→Q) (w:World) (hM:jj w b mo l f):
  Calls Tryz.prog 103 #[.pointer (some ⟨b,0,none⟩),.int .i64 p,.agg #[.int .i64 q.b,.int .i64 q.o,.int .i64 q.r]] w fun e w'=>e=.returned (.int .i64 (cj l (f p) q))∧Mod [] w w':=by
 by_cases hn:gT q=true
 ·go_enter Tryz.func103,Tryz.ntmps103;go_wp2_with (go_at_call 151;refine(pq q _).mono ?_;rintro e w1 ⟨rfl,hm1⟩)
  all_goals go_ret
  all_goals refine⟨?_,((Mod.refl _ _).alloc _).ag hm1⟩
  simp[cj,hn]
 ·simp only[Bool.not_eq_true]at hn;obtain⟨hl,hf,hb,hmap,hne⟩:=hM;obtain⟨r1,hr1⟩:∃r,kh (f p).b q.b l.b=r:=⟨_,rfl⟩;obtain⟨r2,hr2⟩:∃r,kh (f p).o q.o l.o=r:=⟨_,rfl⟩;obtain⟨r3,hr3⟩:∃r,kh (f p).r q.r l.r=r:=⟨_,rfl⟩;go_enter Tryz.func103,Tryz.ntmps103;go_wp2_with fail;refine(pq q _).mono ?_;rintro e w1 ⟨rfl,hm1⟩;have hb1:=hm1.at (aI hb) (by simp);have hq1:=hm1.at (an w _) (by simp);have hmap1:=(hmap.bj (fun x hx=>RowKit.Below.heap_alloc w (.cells #[.int .i64 q.b,.int .i64 q.o,.int .i64 q.r] 45 (0,0)) x (hmap.lt x hx))).mod hm1 (by simp);have hlk:=hmap1.look p;have hcb:=ae hb1;have hcq:=ae hq1;go_wp2_with fail;have hW1:=aI (o:=Obj.cells #[.int .i64 (f p).b,.int .i64 (f p).o,.int .i64 (f p).r] 45 (0,0)) hb1;have hW2:=aI (o:=Obj.cells #[.int .i64 (f p).b,.int .i64 (f p).o,.int .i64 (f p).r] 45 (0,0)) hq1;have hW3:=an w1 (Obj.cells #[.int .i64 (f p).b,.int .i64 (f p).o,.int .i64 (f p).r] 45 (0,0));have hmW:Mod [] w (w1.alloc (Obj.cells #[.int .i64 (f p).b,.int .i64 (f p).o,.int .i64 (f p).r] 45 (0,0))):=(((Mod.refl _ _).alloc _).ag hm1).alloc _;generalize w1.alloc (Obj.cells #[.int .i64 (f p).b,.int .i64 (f p).o,.int .i64 (f p).r] 45 (0,0))=W at*;have hk1:=GW.cells (S:=[]) hW1 (by simp);have hk2:=GW.cells (S:=[]) hW2 (by simp);have hk3:=GW.cells (S:=[]) hW3 (by simp);have hfp:=hf p;clear hcb hcq hlk hmap1 hmap hb hf hb1 hq1 hW1 hW2 hW3;refine aS (by kernel_rfl) (by kernel_rfl) ?_;refine sq 9 ?_;refine b7 152 _ (.bool r1) rfl Tryz.call152 rfl rfl (fun w' _=>(sU (f p).b q.b l.b w' hfp.1.1 hfp.1.2 hl.1.1 hl.1.2).mono fun e w'' ⟨he,hm⟩=>⟨by rw[he,hr1],hm⟩) ?_;simp only[Act.put,sA,sB,sC];cases r1
  all_goals
   refine sq 11 ?_
  ·refine iS rfl ?_;simp only[Act.put,sA,sB,sC];refine sq 12 ?_;refine iS rfl ?_;simp only[Act.put,sA,sB,sC];refine sq 2 ?_;refine au fun w2 hm2=> ?_
   go_wp2;go_ret;exact⟨by simp[cj,hn,hr1],hmW.ag hm2⟩
  ·refine b7 152 _ (.bool r2) rfl Tryz.call152 rfl rfl (fun w' _=>(sU (f p).o q.o l.o w' hfp.2.1.1 hfp.2.1.2 hl.2.1.1 hl.2.1.2).mono fun e w'' ⟨he,hm⟩=>⟨by rw[he,hr2],hm⟩) ?_;simp only[Act.put,sA,sB,sC];cases r2
   all_goals
    refine sq 12 ?_
   ·refine iS rfl ?_;simp only[Act.put,sA,sB,sC];refine sq 2 ?_;refine au fun w2 hm2=> ?_
    go_wp2;go_ret;exact⟨by simp[cj,hn,hr2],hmW.ag hm2⟩
   ·refine b7 152 _ (.bool r3) rfl Tryz.call152 rfl rfl (fun w' _=>(sU (f p).r q.r l.r w' hfp.2.2.1 hfp.2.2.2 hl.2.2.1 hl.2.2.2).mono fun e w'' ⟨he,hm⟩=>⟨by rw[he,hr3],hm⟩) ?_;simp only[Act.put,sA,sB,sC];cases r3
    all_goals
     refine sq 2 ?_;refine au fun w2 hm2=> ?_
     go_wp2;go_ret
    ·exact⟨by simp[cj,hn,hr3],hmW.ag hm2⟩
    ·exact⟨by simp[cj,hn,hr1,hr2,hr3],hmW.ag hm2⟩
theorem yU (p:Int) (l:Q) (b:Nat) (mo:Option Nat) (f:Int→Q) (w:World) (hM:jj w b mo l f):
  Calls Tryz.prog 22 #[.pointer (some ⟨b,0,none⟩),.int .i64 p] w fun e w'=>e=.returned (.agg #[.int .i64 (f p).b,.int .i64 (f p).o,.int .i64 (f p).r])∧Mod [] w w':=by
 obtain⟨hl,hf,hb,hmap,hne⟩:=hM;have hlb:=aL hb;have hcb:=ae hb;have hmap1:=hmap.bj (fun x hx=>RowKit.Below.heap_alloc w (.cells #[.int .i64 0,.int .i64 0,.int .i64 0] 45 (0,0)) x (hmap.lt x hx));have hlk:=hmap1.look p;clear hf hl hmap hmap1;go_enter Tryz.func22,Tryz.ntmps22;go_wp2;exact bodyPost_ret (v:=.agg #[.int .i64 (f p).b,.int .i64 (f p).o,.int .i64 (f p).r]) (by simp[results,Tryz.results22,go_sem]) rfl ⟨rfl,by repeat (first|exact Mod.refl _ _|(refine Mod.setCell ?_ (.inr (by simp)) _)|refine Mod.alloc ?_ _)⟩
theorem Gn (l:Q) (w:World) (hl:l.i64):
  Calls Tryz.prog 32 #[.agg #[.int .i64 l.b,.int .i64 l.o,.int .i64 l.r]] w fun e w'=>∃b,e=.returned (.pointer (some ⟨b,0,none⟩))∧Mod [] w w'∧w.heap.size≤b∧jj w' b none l (fun _=>Q.zero):=by
 go_enter Tryz.func32,Tryz.ntmps32;go_wp2;go_ret;refine⟨w.heap.size+1,rfl,((Mod.refl _ _).alloc _).alloc _,by omega,hl,fun _=>by simp[Q.zero,Q.pos],?_,fun _=>rfl,by simp⟩;have:=an (w.alloc (Obj.cells #[Value.int IntKind.i64 l.b,Value.int IntKind.i64 l.o,Value.int IntKind.i64 l.r] 45 (0,0))) (Obj.cells #[.int .i64 l.b,.int .i64 l.o,.int .i64 l.r,.map none] 145 (0,0));simpa using this
theorem Gu (p:Int) (q l:Q) (b:Nat) (mo:Option Nat) (f:Int→Q) (w:World) (hM:jj w b mo l f) (h:cj l (f p) q≠0):
  Calls Tryz.prog 106 #[.pointer (some ⟨b,0,none⟩),.int .i64 p,.agg #[.int .i64 q.b,.int .i64 q.o,.int .i64 q.r]] w fun e w'=>e=.returned (.int .i64 (cj l (f p) q))∧Mod [] w w':=by
 have hM1:=hM.mod ((Mod.refl [] w).alloc (.cells #[.int .i64 q.b,.int .i64 q.o,.int .i64 q.r] 45 (0,0))) (by simp);have hF:=sO p q l b mo f _ hM1;obtain⟨n,hn⟩:∃n,cj l (f p) q=n:=⟨_,rfl⟩;rw[hn]at hF h⊢;have hne:(n==0)=false:=by simpa using h
 have hne':(n != 0)=true:=by simpa using h
 have HF:=zh hF;clear hF hM1 hM hn;go_enter Tryz.func106,Tryz.ntmps106;go_wp2_with (go_at_call 103;refine HF.out.mono ?_;rintro e w1 ⟨rfl,hm1⟩)
 all_goals go_ret
 all_goals exact⟨rfl,(((Mod.refl _ _).alloc _).ag hm1)⟩
theorem A6 {l x q:Q} (h:cj l x q=0) (hx:x.pos) (hl:l.i64):(x.add q).pos∧q.pos:=by
 unfold cj at h;split at h
 ·cases h
 ·rename_i hn;split at h
  ·rename_i hf;obtain⟨h1,h2,h3⟩:=hf;simp only[kh,Bool.and_eq_true,decide_eq_true_eq]at h1 h2 h3;simp only[gT,Bool.or_eq_true,decide_eq_true_eq]at hn;obtain⟨⟨a1,a2⟩,⟨b1,b2⟩,c1,c2⟩:=hx;obtain⟨⟨d1,d2⟩,⟨e1,e2⟩,g1,g2⟩:=hl;simp only[Q.pos,Q.add];omega
  ·cases h
theorem gN.put {w:World} {bm:Nat} {es:Array MapEntry} {c c':Nat} {f:Int→Q} {p:Int} {v:Q} (hb:w.heap[bm]? =some (.map (c9 p (qv v) c es).1 c')) (hk:cL es.toList) (hg:∀k,(bU k es.toList).getD (qv Q.zero)=qv (f k)):
  gN w (some bm) (fS f p v):=by
 obtain⟨h1,h2⟩:=kE p (qv v) c es hk;refine⟨_,_,hb,h1,fun k=> ?_⟩;rw[h2 k];unfold fS;split
 ·rfl
 ·exact hg k
theorem yE {f:Int→Q} {p:Int} {v:Q} (hf:∀k,(f k).pos) (hv:v.pos):∀k,(fS f p v k).pos:=by
 intro k;unfold fS;split
 ·exact hv
 ·exact hf k
def Changed (v:Value) (b:Nat) (mo:Option Nat) (l:Q) (f:Int→Q) (w:World) (e:Ending) (w':World):Prop:=
 ∃mo',e=.returned v∧Mod (b::mo.toList) w w'∧jj w' b mo' l f∧∀x,mo'=some x→mo=some x∨w.heap.size≤x
theorem FQ (p:Int) (q l:Q) (b:Nat) (mo:Option Nat) (f:Int→Q) (w:World) (hM:jj w b mo l f) (h:cj l (f p) q=0):
  Calls Tryz.prog 106 #[.pointer (some ⟨b,0,none⟩),.int .i64 p,.agg #[.int .i64 q.b,.int .i64 q.o,.int .i64 q.r]] w (Changed (.int .i64 0) b mo l (fS f p ((f p).add q)) w):=by
 have hM1:=hM.mod ((Mod.refl [] w).alloc (.cells #[.int .i64 q.b,.int .i64 q.o,.int .i64 q.r] 45 (0,0))) (by simp);have hF:=sO p q l b mo f _ hM1;rw[h]at hF;have HF:=zh hF;have hpos:=A6 h (hM.has p) hM.lim;have hx:=hM.has p;obtain⟨hap,⟨q1,q2⟩,⟨q3,q4⟩,q5,q6⟩:=hpos;obtain⟨⟨x1,x2⟩,⟨x3,x4⟩,x5,x6⟩:=hx;have hp':=yE (p:=p) hM.has hap;clear hF h hM1;obtain⟨hl,hf,hb,hmap,hne⟩:=hM;have hlb:=aL hb;have hnil:∀w,(binOp .eql 143 (.map mo) (.map none)).run Tryz.prog w=.ok (.bool mo.isNone) w:=fun w=>run_eql_map_nil w _ _ _ mo Tryz.underlying143
 cases mo with
 |none=>
  simp only[Option.isNone_none]at hnil;have hmm:=fun w=>run_makeMap (P:=Tryz.prog) 143 w
  go_enter Tryz.func106,Tryz.ntmps106;go_wp2_with fail;refine HF.out.mono ?_;rintro e w1 ⟨rfl,hm1⟩;have hb1:=hm1.at (aI hb) (by simp);have hq1:=hm1.at (an w _) (by simp);have hlt:=aL hb1;have hsz:=hm1.size;simp only[World.size_alloc]at hsz;have hcb:=ae hb1;have hfb:=ay hb1;have hcq:=ae hq1;have hwm:((w1.setCell ⟨b,3,none⟩ (.map (some w1.heap.size))).alloc (.map #[] 0)).heap[w1.heap.size]? =some (.map #[] 0):=by
   have:=an (w1.setCell ⟨b,3,none⟩ (.map (some w1.heap.size))) (.map #[] 0);simpa[World.setCell]using this
  have hwb:=aI (o:=.map #[] 0) (aq (o:=3) (v:=.map (some w1.heap.size)) hb1);have hwq:=aI (o:=.map #[] 0) (dI (a:=⟨b,3,none⟩) (v:=.map (some w1.heap.size)) hq1 (by simp;omega));have hm2:Mod [b] w ((w1.setCell ⟨b,3,none⟩ (.map (some w1.heap.size))).alloc (.map #[] 0)):=((((Mod.refl [b] w).alloc _).ag hm1).setCell (.inl (by simp)) _).alloc _;have hlk:(Instr.lookup 143 (.map (some w1.heap.size)) (.int .i64 p) false).run Tryz.prog ((w1.setCell ⟨b,3,none⟩ (.map (some w1.heap.size))).alloc (.map #[] 0))=.ok (.agg #[.int .i64 0,.int .i64 0,.int .i64 0]) ((w1.setCell ⟨b,3,none⟩ (.map (some w1.heap.size))).alloc (.map #[] 0)):=
   jG (z:=qv Q.zero) Tryz.underlying143 Tryz.underlying3 (fun w=>Tryz.zeroValue45 w) hwm trivial p
  go_wp2_with fail;have hWm:=aI (o:=.cells #[.int .i64 0,.int .i64 0,.int .i64 0] 45 (0,0)) hwm;have hWb:=aI (o:=.cells #[.int .i64 0,.int .i64 0,.int .i64 0] 45 (0,0)) hwb;have hWq:=aI (o:=.cells #[.int .i64 0,.int .i64 0,.int .i64 0] 45 (0,0)) hwq;have hWx:_=some _:=an ((w1.setCell ⟨b,3,none⟩ (.map (some w1.heap.size))).alloc (.map #[] 0)) (.cells #[.int .i64 0,.int .i64 0,.int .i64 0] 45 (0,0));have hs:((w1.setCell ⟨b,3,none⟩ (.map (some w1.heap.size))).alloc (.map #[] 0)).heap.size=w1.heap.size+1:=by simp[World.setCell]
  have hm3:=hm2.alloc (.cells #[.int .i64 0,.int .i64 0,.int .i64 0] 45 (0,0));rw[hs]at hWx;clear hs hwm hwb hwq hm2 hlk hcb hfb hcq;generalize((w1.setCell ⟨b,3,none⟩ (.map (some w1.heap.size))).alloc (.map #[] 0)).alloc (.cells #[.int .i64 0,.int .i64 0,.int .i64 0] 45 (0,0))=W at*;have hes:cL (#[]:Array MapEntry).toList:=trivial;have hk1:=GW.cells (S:=[w1.heap.size]) hWb (by simp;omega);have hk2:=GW.cells (S:=[w1.heap.size]) hWq (by simp;omega);have hk3:=GW.cells (S:=[w1.heap.size]) hWx (by simp<;>omega);refine bY (fun w'=>∃x:GW [w1.heap.size] W,w'=x.1) (fun w'=>Mod [] W w') (by kernel_rfl) (by kernel_rfl) (fun _ h=>ah.of (h.mono (by simp))) (Mod.refl _ _).drew ?_;refine sq 21 ?_;refine ph w1.heap.size #[] 0 p (qv (Q.zero.add q)) (fun w'=>Mod [w1.heap.size] W w'∧w'.heap[w1.heap.size]? =some (.map (c9 p (qv (Q.zero.add q)) 0 #[]).1 (c9 p (qv (Q.zero.add q)) 0 #[]).2)) rfl Tryz.underlying143 Tryz.underlying3 rfl rfl rfl (by first|rfl|simp[go_sem,qv,Q.add,Q.zero]) hes (fun w' h=>h.at hWm (by simp)) (fun w' h=>⟨(h.mono (by simp)).gj (.inl (by simp)) _,ie (h.at hWm (by simp))⟩) (fun w' h=>ah.of h.1) ?_;simp only[Act.put];refine au fun w2 hm2=> ?_
  go_wp2;go_ret;have hfp:f p=Q.zero:=hmap p;rw[hfp];refine⟨some w1.heap.size,rfl,hm3.then hm2.1 (by simp;omega),⟨hl,by rw[←hfp];exact hp',hm2.1.at hWb (by simp;omega),gN.put hm2.2 hes (fun k=>by rw[hmap k];rfl),by simp;omega⟩,?_⟩;intro x hx;obtain rfl:=Option.some.inj hx;exact .inr (by omega)
 |some bm=>
  obtain⟨es,c,hbm,hes,hg⟩:=hmap;have hnb:b≠bm:=fun e=>hne (by rw[e])
  have hlbm:=aL hbm;simp only[Option.isNone_some]at hnil;go_enter Tryz.func106,Tryz.ntmps106;go_wp2_with fail;refine HF.out.mono ?_;rintro e w1 ⟨rfl,hm1⟩;have hb1:=hm1.at (aI hb) (by simp);have hq1:=hm1.at (an w _) (by simp);have hbm1:=hm1.at (aI hbm) (by simp);have hltm:=aL hbm1;have hlt:=aL hb1;have hsz:=hm1.size;simp only[World.size_alloc]at hsz;have hcb:=ae hb1;have hcq:=ae hq1;have hlk:(Instr.lookup 143 (.map (some bm)) (.int .i64 p) false).run Tryz.prog w1=.ok (.agg #[.int .i64 (f p).b,.int .i64 (f p).o,.int .i64 (f p).r]) w1:=by
   rw[jG (z:=qv Q.zero) Tryz.underlying143 Tryz.underlying3 (fun w=>Tryz.zeroValue45 w) hbm1 hes p,hg p];rfl
  obtain⟨⟨a1,a2⟩,⟨a3,a4⟩,a5,a6⟩:=hap;simp only[Q.add]at a1 a2 a3 a4 a5 a6;go_wp2_with fail;have hWm:=aI (o:=.cells #[.int .i64 (f p).b,.int .i64 (f p).o,.int .i64 (f p).r] 45 (0,0)) hbm1;have hWb:=aI (o:=.cells #[.int .i64 (f p).b,.int .i64 (f p).o,.int .i64 (f p).r] 45 (0,0)) hb1;have hWq:=aI (o:=.cells #[.int .i64 (f p).b,.int .i64 (f p).o,.int .i64 (f p).r] 45 (0,0)) hq1;have hWx:=an w1 (.cells #[.int .i64 (f p).b,.int .i64 (f p).o,.int .i64 (f p).r] 45 (0,0));have hm3:=(((Mod.refl [b,bm] w).alloc _).ag hm1).alloc (.cells #[.int .i64 (f p).b,.int .i64 (f p).o,.int .i64 (f p).r] 45 (0,0));clear hlk hcb hcq;generalize w1.alloc (.cells #[.int .i64 (f p).b,.int .i64 (f p).o,.int .i64 (f p).r] 45 (0,0))=W at*;have hk1:=GW.cells (S:=[bm]) hWb (by simp;omega);have hk2:=GW.cells (S:=[bm]) hWq (by simp;omega);have hk3:=GW.cells (S:=[bm]) hWx (by simp<;>omega);refine bY (fun w'=>∃x:GW [bm] W,w'=x.1) (fun w'=>Mod [] W w') (by kernel_rfl) (by kernel_rfl) (fun _ h=>ah.of (h.mono (by simp))) (Mod.refl _ _).drew ?_;refine sq 21 ?_;refine ph bm es c p (qv ((f p).add q)) (fun w'=>Mod [bm] W w'∧w'.heap[bm]? =some (.map (c9 p (qv ((f p).add q)) c es).1 (c9 p (qv ((f p).add q)) c es).2)) rfl Tryz.underlying143 Tryz.underlying3 rfl rfl rfl (by first|rfl|simp[go_sem,qv,Q.add,Q.zero]) hes (fun w' h=>h.at hWm (by simp)) (fun w' h=>⟨(h.mono (by simp)).gj (.inl (by simp)) _,ie (h.at hWm (by simp))⟩) (fun w' h=>ah.of h.1) ?_;simp only[Act.put];refine au fun w2 hm2=> ?_
  go_wp2;go_ret;refine⟨some bm,rfl,hm3.then hm2.1 (by simp),⟨hl,hp',hm2.1.at hWb (by simp;omega),gN.put hm2.2 hes hg,hne⟩,?_⟩;intro x hx;exact .inl hx
end Go.Proofs.YtdehaommhbjakaaGreat.Qt
