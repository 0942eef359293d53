/- Joined contracts. No conditions. -/
import Derived.Test.YtgfdeiijblakfaaGreatProg
import Derived.WalkSpells
import Derived.Test.YtgfdeiijblakfaaGreatCS
import Derived.Test.YtgfdeiijblakfaaGreatC01
import Derived.Test.YtgfdeiijblakfaaGreatC07
import Derived.Test.YtgfdeiijblakfaaGreatC16
set_option maxHeartbeats 4000000
namespace Go.Proofs.YtgfdeiijblakfaaGreat.Bw
open Go Go.RowKit Go.Stg
def CntIs (w:World) (c:Nat) (L:List Bor):Prop:=∃es ck,w.heap[c]? =some (.map es ck)∧IKeys es.toList∧∀o,mget o es.toList=if ofO L o=[]then none else some (.int .i64 ((ofO L o).length:Nat))
theorem CntIs.mod {S:List Nat} {w w':World} {c:Nat} {L:List Bor} (h:CntIs w c L) (hm:Mod S w w') (hS:c∉S):CntIs w' c L:=by
 obtain⟨es,ck,h1,h2⟩:=h;exact⟨es,ck,hm.at h1 hS,h2⟩
theorem CntIs.lt {w:World} {c:Nat} {L:List Bor} (h:CntIs w c L):c<w.heap.size:=by
 obtain⟨es,ck,h1,h2⟩:=h;exact lt_of h1
def LedAt (w:World) (b:Nat) (L:List Bor) (f:List Nat):Prop:=
 (w.heap[b]? =some (.cells #[.map none,.map none] 91 (0,0))∧L=[]∧f=[b])∨
 ∃a c bs,w.heap[b]? =some (.cells #[.map (some a),.map (some c)] 91 (0,0))∧a≠b∧c≠b∧a≠c∧MapIs w a bs∧bs.Perm L∧CntIs w c L∧f=[b,a,c]
theorem LedAt.keep {w w':World} {b:Nat} {L:List Bor} {f T:List Nat} (h:LedAt w b L f) (hm:Mod T w w') (hT:∀x∈f,x∉T):LedAt w' b L f:=by
 rcases h with⟨h1,h2,rfl⟩|⟨a,c,bs,h1,h2,h3,h4,h5,h6,h7,rfl⟩
 ·exact .inl ⟨hm.at h1 (hT b (by simp)),h2,rfl⟩
 ·exact .inr ⟨a,c,bs,hm.at h1 (hT b (by simp)),h2,h3,h4,h5.mod hm (hT a (by simp)),h6,h7.mod hm (hT c (by simp)),rfl⟩
theorem LedAt.lt {w:World} {b:Nat} {L:List Bor} {f:List Nat} (h:LedAt w b L f):∀x∈f,x<w.heap.size:=by
 rcases h with⟨h1,h2,rfl⟩|⟨a,c,bs,h1,h2,h3,h4,h5,h6,h7,rfl⟩
 ·intro x hx;simp at hx;subst hx;exact lt_of h1
 ·intro x hx;simp at hx;rcases hx with rfl|rfl|rfl
  ·exact lt_of h1
  ·exact h5.lt
  ·exact h7.lt
def ledC (b:Nat) (L:List Bor):Comp:=⟨fun w f=>LedAt w b L f,LedAt.keep,LedAt.lt⟩
structure LedSeen (w:World) (b:Nat) (m1 m2:Value) (bs L:List Bor):Prop where
 blk:w.heap[b]? =some (.cells #[m1,m2] 91 (0,0))
 map:MapV w m1 bs
 perm:bs.Perm L
 cnt:∀W,Mod [] w W→∀o,(Instr.lookup 89 m2 (.int .i64 o) false).run Tryz.prog W=.ok (.int .i64 ((ofO L o).length:Nat)) W
theorem LedAt.seen {w:World} {b:Nat} {L:List Bor} {f:List Nat} (h:LedAt w b L f):∃m1 m2 bs,LedSeen w b m1 m2 bs L:=by
 rcases h with⟨h1,rfl,rfl⟩|⟨a,c,bs,h1,h2,h3,h4,h5,h6,⟨es,ck,k1,k2,k3⟩,rfl⟩
 ·refine⟨_,_,[],h1,.inl ⟨rfl,rfl⟩,List.Perm.refl _,fun W hW o=> ?_⟩;rw[run_lookup_nil Tryz.underlying89 Tryz.underlying3 Tryz.zeroValue3];rfl
 ·refine⟨_,_,bs,h1,.inr ⟨a,rfl,h5⟩,h6,fun W hW o=> ?_⟩;rw[run_lookup_int Tryz.underlying89 Tryz.underlying3 Tryz.zeroValue3 (hW.at k1 (by simp)) k2,k3];split
  ·rename_i h;rw[h];rfl
  ·rfl
def LedV (w:World) (p:Option Addr) (L:List Bor):Prop:=(p=none∧L=[])∨∃b f,p=some ⟨b,0,none⟩∧LedAt w b L f
theorem LedV.of {w:World} {b:Nat} {L:List Bor} {f:List Nat} (h:LedAt w b L f):LedV w (some ⟨b,0,none⟩) L:=.inr ⟨b,f,rfl,h⟩
theorem LedV.mod {w w':World} {p:Option Addr} {L:List Bor} (h:LedV w p L) (hm:Mod [] w w'):LedV w' p L:=by
 rcases h with h|⟨b,f,h1,h2⟩
 ·exact .inl h
 ·exact .inr ⟨b,f,h1,h2.keep hm (by simp)⟩
theorem LedV.cases {w:World} {p:Option Addr} {L:List Bor} (h:LedV w p L):(p=none∧L=[])∨∃b m1 m2 bs,p=some ⟨b,0,none⟩∧LedSeen w b m1 m2 bs L:=by
 rcases h with h|⟨b,f,h1,h2⟩
 ·exact .inl h
 ·obtain⟨m1,m2,bs,h3⟩:=h2.seen;exact .inr ⟨b,m1,m2,bs,h1,h3⟩
theorem find_nil (w:World) (g:Nat) (lb:Array Value):Calls Tryz.prog 165 #[.pointer none,.func (.func g) #[] lb] w fun e w'=>e=.returned (.slice none 0 0)∧Mod [] w w':=by
 go_enter Tryz.func165,Tryz.ntmps165;go_wp2;go_ret;exact⟨rfl,((Mod.refl [] w).alloc _).alloc _⟩
theorem find_any {w:World} {p:Option Addr} {L:List Bor} (h:LedV w p L) (hS:Srt L) (hl:L.length≤1000000) {g:Nat} {lb:Array Value} {q:Bor→Bool}
  (hJ:Judges w g lb q) (eg:∀args w,(callFunc g args).run Tryz.prog w=.ok (.enter g args) w):
  Calls Tryz.prog 165 #[.pointer p,.func (.func g) #[] lb] w fun e w'=>∃v,e=.returned v∧w'.ownsRow w.heap.size 187 4 v (L.filter q).length (flat bcell (L.filter q))∧Mod [] w w':=by
 rcases h.cases with⟨rfl,rfl⟩|⟨b,m1,m2,bs,rfl,hs⟩
 ·exact(find_nil w g lb).mono fun e w' ⟨he,hm⟩=>⟨_,he,World.ownsRow_nil _ _ _ _,hm⟩
 ·exact find_ok hs.blk hs.map hs.perm hS hl hJ eg
theorem ofC_judges {w:World} {r:Nat} {o:Int} (h:w.heap[r]? =some (.cells #[.int .i64 o] 3 (0,0))):Judges w 166 #[.pointer (some ⟨r,0,none⟩)] (fun x=>decide (x.1.1=o)):=by
 rintro⟨⟨xo,xh⟩,xm,xc⟩ W hW;have h1:=at_alloc_old (o:=.cells #[.int .i64 xo,.int .i64 xh,.int .i64 xm,.int .i64 xc] 187) (hW.at h (by simp));have hc:=cells_of h1;have hm:=(Mod.refl [] W).alloc (.cells #[.int .i64 xo,.int .i64 xh,.int .i64 xm,.int .i64 xc] 187);unfold bv;have he:decide (xo=o)=(xo==o):=by by_cases h:xo=o<;>simp[h]
 show Calls _ _ _ _ fun e W'=>e=.returned (.bool (decide (xo=o)))∧Mod [] W W'
 rw[he];have hmH:=Lib.hid hm;clear h h1 hm he hW;go_enter Tryz.func166,Tryz.ntmps166;go_wp2_with fail;go_ret;exact⟨rfl,hmH.out⟩
theorem of_ok {w:World} {p:Option Addr} {L:List Bor} (h:LedV w p L) (hS:Srt L) (hl:L.length≤1000000) (o:Int):
  Calls Tryz.prog 157 #[.pointer p,.int .i64 o] w fun e w'=>∃v,e=.returned v∧w'.ownsRow w.heap.size 187 4 v (ofO L o).length (flat bcell (ofO L o))∧Mod [] w w':=by
 have hb:=at_alloc w (.cells #[.int .i64 o] 3);have hm:=(Mod.refl [] w).alloc (.cells #[.int .i64 o] 3);have hf:=Lib.hid (find_any (h.mod hm) hS hl (ofC_judges hb) (enters_of Tryz.func166 (by kernel_rfl) rfl));have hmH:=Lib.hid hm;clear h hb hm;go_enter Tryz.func157,Tryz.ntmps157;go_wp2_with fail;refine hf.out.mono ?_;rintro e w' ⟨v,rfl,hr,hm'⟩;have hr':=Lib.hid (row_base hr (show w.heap.size≤(w.alloc (.cells #[.int .i64 o] 3)).heap.size by simp));have hm2:=Lib.hid (hmH.out.nil_then hm');clear hr hm';go_wp2_with fail;go_ret;exact⟨v,rfl,hr'.out,hm2.out⟩
theorem getB_of_perm {bs L:List Bor} (hp:bs.Perm L) (hS:Srt L) (k:Int×Int):getB bs k=getB L k:=by
 have hn:(bs.map (·.1)).Nodup:=((hp.map (·.1)).nodup_iff).2 hS.nodup
 cases hg:getB L k with
 |none=>
  cases hg2:getB bs k with
  |none=>rfl
  |some b=>
   obtain⟨h1,h2⟩:=getB_some hg2;exact absurd h2 (getB_none hg b (hp.subset h1))
 |some b=>
  obtain⟨h1,h2⟩:=getB_some hg;have:=getB_of hn (hp.symm.subset h1);rw[h2]at this;exact this
theorem look_v {w:World} {mv:Value} {bs:List Bor} (h:MapV w mv bs) (k:Int×Int):(Instr.lookup 88 mv (.agg #[.int .i64 k.1,.int .i64 k.2]) true).run Tryz.prog w=.ok (foundV (getB bs k)) w:=by
 rcases h with⟨rfl,rfl⟩|⟨mb,rfl,h⟩
 ·exact look_nil w k
 ·exact look_b h k
def gotB (L:List Bor) (k:Int×Int):Bor:=(getB L k).getD b0
theorem foundV_eq (o:Option Bor):foundV o=.tuple #[bv (o.getD b0),.bool o.isSome]:=by cases o<;>rfl
theorem holds_ok {w:World} {p:Option Addr} {L:List Bor} (h:LedV w p L) (hS:Srt L) (o k:Int):
  Calls Tryz.prog 105 #[.pointer p,.int .i64 o,.int .i64 k] w fun e w'=>e=.returned (foundV (getB L (o,k)))∧Mod [] w w':=by
 have hm:=Lib.hid ((Mod.refl [] w).alloc (.cells #[.int .i64 0,.int .i64 0,.int .i64 0,.int .i64 0] 187));have hb:=at_alloc w (.cells #[.int .i64 0,.int .i64 0,.int .i64 0,.int .i64 0] 187);rcases h.cases with⟨rfl,rfl⟩|⟨b,m1,m2,bs,rfl,hs⟩
 ·clear h hS;go_enter Tryz.func105,Tryz.ntmps105;go_wp2_with fail;exact bodyPost_ret (v:=.tuple #[.agg #[.int .i64 0,.int .i64 0,.int .i64 0,.int .i64 0],.bool false]) (by simp[results,Tryz.results105,go_sem]) rfl ⟨rfl,by repeat (first|exact Mod.refl _ _|(refine Mod.setCell ?_ (.inr (by simp)) _)|refine Mod.alloc ?_ _)⟩
 ·have hl:=look_v (hs.map.keep (w':=w.alloc (.cells #[.int .i64 0,.int .i64 0,.int .i64 0,.int .i64 0] 187)) fun mb hmb=>RowKit.Below.heap_alloc _ _ _ (hs.map.lt mb hmb)) (o,k);rw[getB_of_perm hs.perm hS,foundV_eq]at hl;rw[foundV_eq];generalize((getB L (o,k)).getD b0)=x at*;generalize(getB L (o,k)).isSome=fl at*;obtain⟨⟨xo,xh⟩,xm,xc⟩:=x;unfold bv at*;have hcb:=cells_of (at_alloc_old (o:=.cells #[.int .i64 0,.int .i64 0,.int .i64 0,.int .i64 0] 187) hs.blk);clear h hS hs;go_enter Tryz.func105,Tryz.ntmps105;go_wp2_with fail;exact bodyPost_ret (v:=.tuple #[.agg #[.int .i64 xo,.int .i64 xh,.int .i64 xm,.int .i64 xc],.bool fl]) (by simp[results,Tryz.results105,go_sem]) rfl ⟨rfl,by repeat (first|exact Mod.refl _ _|(refine Mod.setCell ?_ (.inr (by simp)) _)|refine Mod.alloc ?_ _)⟩
theorem modeO_cons {L:List Bor} {o:Int} {b:Bor} {l:List Bor} (h:ofO L o=b::l):modeO L o=b.2.1:=by unfold modeO;rw[h]
theorem mode_ok {w:World} {p:Option Addr} {L:List Bor} (h:LedV w p L) (hS:Srt L) (hl:L.length≤1000000) (o:Int):
  Calls Tryz.prog 145 #[.pointer p,.int .i64 o] w fun e w'=>e=.returned (.int .i64 (modeO L o))∧Mod [] w w':=by
 rcases h.cases with⟨rfl,rfl⟩|⟨b,m1,m2,bs,rfl,hs⟩
 ·clear h hS hl;show Calls _ _ _ _ fun e w'=>e=.returned (.int .i64 0)∧Mod [] w w'
  go_enter Tryz.func145,Tryz.ntmps145;go_wp2_with fail;go_ret;exact⟨rfl,Mod.refl _ _⟩
 ·have hlk:=hs.cnt w (Mod.refl _ _) o;have hcb:=cells_of hs.blk;have hof:=Lib.hid (of_ok h hS hl o)
  cases hc:ofO L o with
  |nil=>
   have hz:modeO L o=0:=by unfold modeO;rw[hc]
   rw[hc]at hlk;rw[hz];simp only[List.length_nil]at hlk;clear h hS hl hs hof hc hz;go_enter Tryz.func145,Tryz.ntmps145;go_wp2_with fail;go_ret;exact⟨rfl,Mod.refl _ _⟩
  |cons x l=>
   have hz:=modeO_cons hc;rw[hc]at hlk hof;rw[hz];obtain⟨n,hn⟩:∃n:Int,(((x::l).length:Nat):Int)=n:=⟨_,rfl⟩;rw[hn]at hlk;have hne:(n==0)=false:=by simp at hn⊢;omega
   obtain⟨⟨xo,xh⟩,xm,xc⟩:=x;clear h hS hl hs hc hz;go_enter Tryz.func145,Tryz.ntmps145;go_wp2_with fail;refine hof.out.mono ?_;rintro e w' ⟨v,rfl,hr,hm⟩;obtain⟨g,cap,rfl,hg1,hg2⟩:=row_pos hr (by simp);have hcell:w'.cell? ⟨g,2,none⟩=some (.int .i64 xm):=hr.cellAt 2 (by simp;omega);have hcap:0<l.length+1:=by omega
   have hmH:=Lib.hid hm;clear hr hm hlk hcb;go_wp2_with fail;go_ret;exact⟨rfl,hmH.out⟩
def accE (L:List Bor) (o k:Int) (owner:Bool) (a:Int):Int:=
 if a<1∨4<a then 1 else if owner then(if modeO L o=2∨(modeO L o=1∧(a=2∨a=3))then 14 else 0)
 else if a=3∨a=4∨(getB L (o,k)).isSome=false then 13 else if(gotB L (o,k)).2.1=1∧a=2 then 14 else 0
theorem access_ok {w:World} {p:Option Addr} {L:List Bor} {N:Int} (h:LedV w p L) (hI:LInv N L) (hl:L.length≤1000000) (o k:Int) (owner:Bool) (a:Int):
  Calls Tryz.prog 108 #[.pointer p,.int .i64 o,.int .i64 k,.bool owner,.int .i64 a] w fun e w'=>e=.returned (.int .i64 (accE L o k owner a))∧Mod [] w w':=by
 have hmo:=Lib.hid (mode_ok h hI.srt hl o);have hho:=holds_ok h hI.srt o k;have hmr:=modeO_range hI o;rw[foundV_eq]at hho;have hmd:(getB L (o,k)).isSome=true→(gotB L (o,k)).2.1=1∨(gotB L (o,k)).2.1=2:=fun hh=>by
  unfold gotB
  cases hg:getB L (o,k)with
  |none=>rw[hg]at hh;cases hh
  |some b=>exact hI.mode b (getB_some hg).1
 obtain⟨E,hE⟩:∃E,accE L o k owner a=E:=⟨_,rfl⟩;rw[hE];unfold accE at hE;change Calls _ _ _ _ (fun e w'=>e=.returned (.tuple #[bv (gotB L (o,k)),_])∧_)at hho;generalize gotB L (o,k)=x at*;generalize(getB L (o,k)).isSome=fl at*;generalize modeO L o=m at*;obtain⟨⟨xo,xh⟩,xm,xc⟩:=x;have hEH:=Lib.hid hE;have hho:=Lib.hid hho;simp only at hmd;clear h hI hl hE;by_cases ha1:a<1
 ·obtain rfl:1=E:=by have:=hEH.out;rw[if_pos (.inl ha1)]at this;exact this
  clear hEH;go_enter Tryz.func108,Tryz.ntmps108;go_wp2_with fail;go_ret;exact⟨rfl,Mod.refl _ _⟩
 ·by_cases ha4:4<a
  ·obtain rfl:1=E:=by have:=hEH.out;rw[if_pos (.inr ha4)]at this;exact this
   clear hEH;go_enter Tryz.func108,Tryz.ntmps108;go_wp2_with fail;go_ret;exact⟨rfl,Mod.refl _ _⟩
  ·have ha:a=1∨a=2∨a=3∨a=4:=by omega
   have hE:=hEH.out;rw[if_neg (by omega)]at hE;clear ha1 ha4 hEH
   cases owner with
   |true=>
    simp only[if_true]at hE;clear hho hmd;rcases ha with rfl|rfl|rfl|rfl<;>rcases hmr with rfl|rfl|rfl<;>simp at hE<;>subst hE<;>
    ·go_enter Tryz.func108,Tryz.ntmps108;go_wp2_with fail;refine hmo.out.mono ?_;rintro e w' ⟨rfl,hm⟩;have hmH:=Lib.hid hm;clear hm;go_wp2_with fail;go_ret;exact⟨rfl,hmH.out⟩
   |false=>
    simp only[Bool.false_eq_true,if_false]at hE;clear hmo hmr
    cases fl with
    |false=>
     rw[if_pos (by simp)]at hE;subst hE;rcases ha with rfl|rfl|rfl|rfl<;>
     ·go_enter Tryz.func108,Tryz.ntmps108;go_wp2_with fail;refine hho.out.mono ?_;rintro e w' ⟨rfl,hm⟩;have hmH:=Lib.hid hm;unfold bv;clear hm;go_wp2_with fail;go_ret;exact⟨rfl,hmH.out.alloc _⟩
    |true=>
     have hmd:=hmd rfl;rcases ha with rfl|rfl|rfl|rfl<;>rcases hmd with rfl|rfl<;>simp at hE<;>subst hE<;>
     ·go_enter Tryz.func108,Tryz.ntmps108;go_wp2_with fail;refine hho.out.mono ?_;rintro e w' ⟨rfl,hm⟩;have hmH:=Lib.hid hm;unfold bv;clear hm;go_wp2_with fail;go_ret;exact⟨rfl,hmH.out.alloc _⟩
end Go.Proofs.YtgfdeiijblakfaaGreat.Bw
namespace Go.Proofs.YtgfdeiijblakfaaGreat.Qt
open Go Go.RowKit Go.Stg
structure Q where
 b:Int
 o:Int
 r:Int
def Q.zero:Q:=⟨0,0,0⟩
def qv (q:Q):Value:=.agg #[.int .i64 q.b,.int .i64 q.o,.int .i64 q.r]
def Q.i64 (q:Q):Prop:=(-9223372036854775808≤q.b∧q.b≤9223372036854775807)∧(-9223372036854775808≤q.o∧q.o≤9223372036854775807)∧(-9223372036854775808≤q.r∧q.r≤9223372036854775807)
def Q.pos (q:Q):Prop:=(0≤q.b∧q.b≤9223372036854775807)∧(0≤q.o∧q.o≤9223372036854775807)∧(0≤q.r∧q.r≤9223372036854775807)
def Q.add (x q:Q):Q:=⟨x.b+q.b,x.o+q.o,x.r+q.r⟩
def Q.sub (x q:Q):Q:=⟨x.b-q.b,x.o-q.o,x.r-q.r⟩
def negB (q:Q):Bool:=decide (q.b<0)||decide (q.o<0)||decide (q.r<0)
def fitsB (a b l:Int):Bool:=decide (a≤l)&&decide (b≤l-a)
def fitsE (l x q:Q):Int:=if negB q=true then 1 else if fitsB x.b q.b l.b=true∧fitsB x.o q.o l.o=true∧fitsB x.r q.r l.r=true then 0 else 16
def overB (x q:Q):Bool:=decide (x.b<q.b)||decide (x.o<q.o)||decide (x.r<q.r)
def subE (x q:Q):Int:=if negB q=true∨overB x q=true then 1 else 0
def upd (f:Int→Q) (p:Int) (v:Q):Int→Q:=fun k=>if k=p then v else f k
theorem fits_any (a b l:Int) (w:World) (h0:0≤a) (h1:a≤9223372036854775807) (h2: -9223372036854775808≤l) (h3:l≤9223372036854775807):
  Calls Tryz.prog 122 #[.int .i64 a,.int .i64 b,.int .i64 l] w fun e w'=>e=.returned (.bool (fitsB a b l))∧Mod [] w w':=by
 go_enter Tryz.func122,Tryz.ntmps122;go_wp2
 all_goals go_ret
 all_goals refine⟨?_,Mod.refl _ _⟩
 all_goals (simp[fitsB];try omega)
theorem negative_any (q:Q) (w:World):Calls Tryz.prog 121 #[.agg #[.int .i64 q.b,.int .i64 q.o,.int .i64 q.r]] w fun e w'=>e=.returned (.bool (negB q))∧Mod [] w w':=by
 obtain⟨a,b,c⟩:=q;go_enter Tryz.func121,Tryz.ntmps121;go_wp2
 all_goals go_ret
 all_goals refine⟨?_,(Mod.refl _ _).alloc _⟩
 all_goals (simp[negB];try omega)
def MapAt (w:World) (mo:Option Nat) (f:Int→Q):Prop:=
 match mo with
 |none=>∀k,f k=Q.zero
 |some bm=>∃es c,w.heap[bm]? =some (.map es c)∧IKeys es.toList∧∀k,(mget k es.toList).getD (qv Q.zero)=qv (f k)
structure MeterAt (w:World) (b:Nat) (mo:Option Nat) (l:Q) (f:Int→Q):Prop where
 lim:l.i64
 has:∀k,(f k).pos
 blk:w.heap[b]? =some (.cells #[.int .i64 l.b,.int .i64 l.o,.int .i64 l.r,.map mo] 94 (0,0))
 map:MapAt w mo f
 ne:mo≠some b
theorem MapAt.keep {w w':World} {mo:Option Nat} {f:Int→Q} (h:MapAt w mo f) (hk:∀x,mo=some x→w'.heap[x]? =w.heap[x]?):MapAt w' mo f:=by
 cases mo with
 |none=>exact h
 |some bm=>
  obtain⟨es,c,h1,h2,h3⟩:=h;exact⟨es,c,(hk bm rfl).trans h1,h2,h3⟩
theorem MapAt.lt {w:World} {mo:Option Nat} {f:Int→Q} (h:MapAt w mo f):∀x,mo=some x→x<w.heap.size:=by
 cases mo with
 |none=>intro x hx;cases hx
 |some bm=>
  obtain⟨es,c,h1,_⟩:=h;intro x hx;obtain rfl:=Option.some.inj hx;exact lt_of h1
theorem MapAt.mod {S:List Nat} {w w':World} {mo:Option Nat} {f:Int→Q} (h:MapAt w mo f) (hm:Mod S w w') (hS:∀x,mo=some x→x∉S):MapAt w' mo f:=
 h.keep fun x hx=>hm.block x (h.lt x hx) (hS x hx)
theorem MeterAt.mod {S:List Nat} {w w':World} {b:Nat} {mo:Option Nat} {l:Q} {f:Int→Q} (h:MeterAt w b mo l f) (hm:Mod S w w') (hS:∀x,x∈b::mo.toList→x∉S):MeterAt w' b mo l f:=
 ⟨h.lim,h.has,hm.at h.blk (hS b (by simp)),h.map.mod hm (fun x hx=>hS x (by simp[hx])),h.ne⟩
theorem MapAt.look {w:World} {mo:Option Nat} {f:Int→Q} (h:MapAt w mo f) (k:Int):
  (Instr.lookup 92 (.map mo) (.int .i64 k) false).run Tryz.prog w=.ok (.agg #[.int .i64 (f k).b,.int .i64 (f k).o,.int .i64 (f k).r]) w:=by
 cases mo with
 |none=>rw[run_lookup_nil (z:=qv Q.zero) Tryz.underlying92 Tryz.underlying3 (fun w=>Tryz.zeroValue29 w) w k,h k];rfl
 |some bm=>
  obtain⟨es,c,h1,h2,h3⟩:=h;rw[run_lookup_int (z:=qv Q.zero) Tryz.underlying92 Tryz.underlying3 (fun w=>Tryz.zeroValue29 w) h1 h2 k,h3 k];rfl
theorem Fits_any (p:Int) (q l:Q) (b:Nat) (mo:Option Nat) (f:Int→Q) (w:World) (hM:MeterAt w b mo l f):
  Calls Tryz.prog 79 #[.pointer (some ⟨b,0,none⟩),.int .i64 p,.agg #[.int .i64 q.b,.int .i64 q.o,.int .i64 q.r]] w fun e w'=>e=.returned (.int .i64 (fitsE l (f p) q))∧Mod [] w w':=by
 by_cases hn:negB q=true
 ·go_enter Tryz.func79,Tryz.ntmps79;go_wp2_with (go_at_call 121;refine(negative_any q _).mono ?_;rintro e w1 ⟨rfl,hm1⟩)
  all_goals go_ret
  all_goals refine⟨?_,((Mod.refl _ _).alloc _).nil_then hm1⟩
  simp[fitsE,hn]
 ·simp only[Bool.not_eq_true]at hn;obtain⟨hl,hf,hb,hmap,hne⟩:=hM;obtain⟨r1,hr1⟩:∃r,fitsB (f p).b q.b l.b=r:=⟨_,rfl⟩;obtain⟨r2,hr2⟩:∃r,fitsB (f p).o q.o l.o=r:=⟨_,rfl⟩;obtain⟨r3,hr3⟩:∃r,fitsB (f p).r q.r l.r=r:=⟨_,rfl⟩;go_enter Tryz.func79,Tryz.ntmps79;go_wp2_with fail;refine(negative_any q _).mono ?_;rintro e w1 ⟨rfl,hm1⟩;have hb1:=hm1.at (at_alloc_old hb) (by simp);have hq1:=hm1.at (at_alloc w _) (by simp);have hmap1:=(hmap.keep (fun x hx=>RowKit.Below.heap_alloc w (.cells #[.int .i64 q.b,.int .i64 q.o,.int .i64 q.r] 29 (0,0)) x (hmap.lt x hx))).mod hm1 (by simp);have hlk:=hmap1.look p;have hcb:=cells_of hb1;have hcq:=cells_of hq1;go_wp2_with fail;have hW1:=at_alloc_old (o:=Obj.cells #[.int .i64 (f p).b,.int .i64 (f p).o,.int .i64 (f p).r] 29 (0,0)) hb1;have hW2:=at_alloc_old (o:=Obj.cells #[.int .i64 (f p).b,.int .i64 (f p).o,.int .i64 (f p).r] 29 (0,0)) hq1;have hW3:=at_alloc w1 (Obj.cells #[.int .i64 (f p).b,.int .i64 (f p).o,.int .i64 (f p).r] 29 (0,0));have hmW:Mod [] w (w1.alloc (Obj.cells #[.int .i64 (f p).b,.int .i64 (f p).o,.int .i64 (f p).r] 29 (0,0))):=(((Mod.refl _ _).alloc _).nil_then hm1).alloc _;generalize w1.alloc (Obj.cells #[.int .i64 (f p).b,.int .i64 (f p).o,.int .i64 (f p).r] 29 (0,0))=W at*;have hk1:=GW.cells (S:=[]) hW1 (by simp);have hk2:=GW.cells (S:=[]) hW2 (by simp);have hk3:=GW.cells (S:=[]) hW3 (by simp);have hfp:=hf p;clear hcb hcq hlk hmap1 hmap hb hf hb1 hq1 hW1 hW2 hW3;refine wp_region_pure (by kernel_rfl) (by kernel_rfl) ?_;refine stage_quiet 9 (by kernel_rfl) ?_;simp only[tA,tB,tC,tD];(repeat go_big_quiet_step (fail));refine wpQuiet_nil ?_;refine stage_pure 122 _ (.bool r1) rfl Tryz.call122 rfl rfl (fun w' _=>(fits_any (f p).b q.b l.b w' hfp.1.1 hfp.1.2 hl.1.1 hl.1.2).mono fun e w'' ⟨he,hm⟩=>⟨by rw[he,hr1],hm⟩) ?_;simp only[Act.put,sA,sB,sC];cases r1
  all_goals
   refine stage_quiet 11 (by kernel_rfl) ?_;simp only[tA,tB,tC,tD];(repeat go_big_quiet_step (fail));refine wpQuiet_nil ?_
  ·refine stage_skip rfl ?_;simp only[Act.put,sA,sB,sC];refine stage_quiet 12 (by kernel_rfl) ?_;simp only[tA,tB,tC,tD];(repeat go_big_quiet_step (fail));refine wpQuiet_nil ?_;refine stage_skip rfl ?_;simp only[Act.put,sA,sB,sC];refine stage_quiet 2 (by kernel_rfl) ?_;simp only[tA,tB,tC,tD];(repeat go_big_quiet_step (fail));refine wpQuiet_nil ?_;refine stage_nil fun w2 hm2=> ?_
   go_wp2;go_ret;exact⟨by simp[fitsE,hn,hr1],hmW.nil_then hm2⟩
  ·refine stage_pure 122 _ (.bool r2) rfl Tryz.call122 rfl rfl (fun w' _=>(fits_any (f p).o q.o l.o w' hfp.2.1.1 hfp.2.1.2 hl.2.1.1 hl.2.1.2).mono fun e w'' ⟨he,hm⟩=>⟨by rw[he,hr2],hm⟩) ?_;simp only[Act.put,sA,sB,sC];cases r2
   all_goals
    refine stage_quiet 12 (by kernel_rfl) ?_;simp only[tA,tB,tC,tD];(repeat go_big_quiet_step (fail));refine wpQuiet_nil ?_
   ·refine stage_skip rfl ?_;simp only[Act.put,sA,sB,sC];refine stage_quiet 2 (by kernel_rfl) ?_;simp only[tA,tB,tC,tD];(repeat go_big_quiet_step (fail));refine wpQuiet_nil ?_;refine stage_nil fun w2 hm2=> ?_
    go_wp2;go_ret;exact⟨by simp[fitsE,hn,hr2],hmW.nil_then hm2⟩
   ·refine stage_pure 122 _ (.bool r3) rfl Tryz.call122 rfl rfl (fun w' _=>(fits_any (f p).r q.r l.r w' hfp.2.2.1 hfp.2.2.2 hl.2.2.1 hl.2.2.2).mono fun e w'' ⟨he,hm⟩=>⟨by rw[he,hr3],hm⟩) ?_;simp only[Act.put,sA,sB,sC];cases r3
    all_goals
     refine stage_quiet 2 (by kernel_rfl) ?_;simp only[tA,tB,tC,tD];(repeat go_big_quiet_step (fail));refine wpQuiet_nil ?_;refine stage_nil fun w2 hm2=> ?_
     go_wp2;go_ret
    ·exact⟨by simp[fitsE,hn,hr3],hmW.nil_then hm2⟩
    ·exact⟨by simp[fitsE,hn,hr1,hr2,hr3],hmW.nil_then hm2⟩
end Go.Proofs.YtgfdeiijblakfaaGreat.Qt
