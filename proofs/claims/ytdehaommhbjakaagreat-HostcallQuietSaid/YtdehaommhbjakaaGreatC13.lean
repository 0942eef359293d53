/- Joined contracts. No conditions. -/
import Derived.Test.YtdehaommhbjakaaGreatC12
set_option maxHeartbeats 4000000
set_option maxRecDepth 100000
namespace Go.Proofs.YtdehaommhbjakaaGreat.Ty
open RowKit Stg
theorem oU (w:World):Calls Tryz.prog 30 #[] w fun e w'=>e=.returned (.pointer (some ⟨w.heap.size,0,none⟩))∧w'=w.alloc (.cells #[.slice none 0 0] 156):=by
 go_enter Tryz.func30,Tryz.ntmps30;go_wp2_with fail;go_ret;exact⟨rfl,rfl⟩
theorem DI (T:TypeId) {w:World} {b:Nat} (h:w.heap[b]? =some (.cells #[.slice none 0 0] T (0,0))):(dN T b []).on w ([b]++([]++([]++[]))):=
 ⟨.slice none 0 0,[],rfl,by simp,by simp,[b],_,⟨h,rfl⟩,⟨[],_,⟨World.ownsRow_nil _ _ _ _,rfl⟩,⟨[],[],⟨by simp,rfl⟩,rfl,by simp,rfl⟩,by simp,rfl⟩,by simp,rfl⟩
def aN (R:List Ty) (tag:Int):Ty:=if 1≤tag∧tag≤R.length then R.getD (tag-1).toNat (0,[])else(0,[])
def ee (R:List Ty) (tag:Int):Int:=if 1≤tag∧tag≤R.length then 0 else 20
def ox (R:List Ty) (tag:Int) (w:World) (e:Ending) (w':World):Prop:=∃v',e=.returned (.tuple #[.agg #[.int .i64 (aN R tag).1,v'],.int .i64 (ee R tag)])∧aw w' v' (aN R tag).2∧Mod [] w w'
theorem xv {R:List Ty} {tag:Int} {w w':World} (h:¬(1≤tag∧tag≤R.length)) {e:Ending} (he:e=.returned (.tuple #[.agg #[.int .i64 0,.slice none 0 0],.int .i64 20])) (hm:Mod [] w w'):ox R tag w e w':=by
 unfold ox aN ee;rw[if_neg h,if_neg h];exact⟨_,he,.inl ⟨rfl,rfl⟩,hm⟩
theorem FZ {R:List Ty} {tag:Int} (h1:1≤tag) (h2:tag≤R.length) {L:List (Ty×Value)} (hL:L.map (·.1)=R) (hk:(tag-1).toNat<L.length):aN R tag=L[(tag-1).toNat].1∧ee R tag=0:=by
 unfold aN ee;rw[if_pos ⟨h1,h2⟩,if_pos ⟨h1,h2⟩];subst hL;rw[List.getD_eq_getElem?_getD,List.getElem?_map,List.getElem?_eq_getElem hk];exact⟨rfl,rfl⟩
theorem we {rb:Nat} {R:List Ty} {w:World} {f:List Nat} (h:(dN 156 rb R).on w f) (tag:Int):
  Calls Tryz.prog 100 #[.pointer (some ⟨rb,0,none⟩),.int .i64 tag] w (ox R tag w):=by
 obtain⟨sv,L,hLR,hok,h255,hH⟩:=h;have hlenR:L.length=R.length:=by rw[←hLR,List.length_map]
 have hL255:L.length≤255:=by omega
 have hm0:=(Mod.refl [] w).alloc (.cells #[.int .i64 0,.slice none 0 0] 54);have hq0:=an w (.cells #[.int .i64 0,.slice none 0 0] 54);have hS0:=(af.start hH).then hm0
 have hlist:=zh (Fy (hS0.block 0 rfl));have hln:=fun ty w=>fY (ty:=ty) Tryz.underlying63 (hS0.row 1 rfl) w
 have hq0H:=zh hq0;have hm0H:=zh hm0;have hS0H:=zh hS0;have hokH:=zh hok;have hLRH:=zh hLR;have hwl:w.heap.size<(w.alloc (.cells #[.int .i64 0,.slice none 0 0] 54)).heap.size:=by simp
 clear hH hok hLR hq0 hS0 hm0;by_cases ht:1≤tag∧tag≤R.length
 ·obtain⟨h1,h2⟩:=ht;have hk:(tag-1).toNat<L.length:=by omega
  obtain⟨e1,e2⟩:=FZ h1 h2 hLRH.out hk;have e1H:=zh e1;have e2H:=zh e2;have hn:(((tag-1).toNat:Nat):Int)=tag-1:=by omega
  have hlenH:=zh hlenR;clear e1 e2 hlenR;generalize hkk:(tag-1).toNat=k at*;obtain⟨g,cap,rfl,hg,_,_⟩:=qf (hS0H.out.row 1 rfl) rfl hk;have hkH:=zh hkk;have htk:tag=k+1:=by omega
  have hle:(k:Int)+1≤L.length:=by omega
  clear hkk hn h1 h2;subst htk;go_enter Tryz.func100,Tryz.ntmps100;go_wp2_with fail;refine hlist.out.mono ?_;rintro e w1 ⟨rfl,hm1⟩;have hS1:=zh (hS0H.out.then hm1);have hq1:=zh (hm1.at hq0H.out (by simp));have hm1:=zh (hm0H.out.ag hm1);have hF:=zh (pn 2 hS1.out rfl _ (List.getElem_mem hk));have hok1:=hokH.out _ (by rw[←hLRH.out];exact List.mem_map_of_mem (List.getElem_mem hk));have hfl:=hok1.bounds.2.2;obtain⟨g',cap',e,_,r0,r1⟩:=qf (hS1.out.row 1 rfl) rfl hk;simp at e;obtain⟨rfl,rfl⟩:=e;clear hlist hS0H hq0H hm0H hok1;go_wp2_with fail;refine(wc _ _ _ (by omega) _ hF.out).mono ?_;rintro e w2 ⟨v',rfl,hr,hm2⟩;have hq2:=zh (hm2.at hq1.out (by simp));have hm3:=zh (hm1.out.ag hm2);have hlt:=hr.lt;obtain⟨va,vm,vc,rfl⟩:=oJ hr;have hrH:=zh hr;have hcq:=ae hq2.out;have hfq:=ay hq2.out;have aP:=aL hq1.out;clear hF r0 r1 hq1 hm1 hr hS1;go_wp2_with fail;have hq5:=(aq (o:=1) (v:=.slice va vm vc) (aq (o:=0) (v:=.int .i64 L[k].1.1) (hq2.out)));have hm5:=(((hm3.out).setCell (p:=⟨w.heap.size,0,none⟩) (.inr (Nat.le_refl _)) (.int .i64 L[k].1.1)).setCell (p:=⟨w.heap.size,1,none⟩) (.inr (Nat.le_refl _)) (.slice va vm vc));refine bodyPost_ret (gX Tryz.results100 rfl rfl hq5 Tryz.underlying54 rfl (by kernel_rfl)) rfl ?_;unfold ox;rw[e1H.out,e2H.out];refine⟨.slice va vm vc,rfl,?_,hm5⟩;have hm6:=((Mod.refl [w.heap.size] w2).setCell (p:=⟨w.heap.size,0,none⟩) (.inl (by simp)) (.int .i64 L[k].1.1)).setCell (p:=⟨w.heap.size,1,none⟩) (.inl (by simp)) (.slice va vm vc);exact fW (aG hrH.out hm6 (fun g hg=>by have:=(hlt g hg).1;simp;omega)) rfl
 ·have htH:=zh ht;have hd:tag<1∨(¬tag<1∧(L.length:Int)<tag):=by omega
  clear ht hlenR;rcases hd with h1|⟨h1,h2⟩
  ·go_enter Tryz.func100,Tryz.ntmps100;go_wp2_with fail;refine hlist.out.mono ?_;rintro e w1 ⟨rfl,hm1⟩;have hq1:=zh (hm1.at hq0H.out (by simp));have hm1:=zh (hm0H.out.ag hm1);have hcq:=ae hq1.out;have hfq:=ay hq1.out;clear hlist hS0H hq0H hm0H;go_wp2_with fail;have hq5:=(aq (o:=1) (v:=.slice none 0 0) (aq (o:=0) (v:=.int .i64 0) (hq1.out)));have hm5:=(((hm1.out).setCell (p:=⟨w.heap.size,0,none⟩) (.inr (Nat.le_refl _)) (.int .i64 0)).setCell (p:=⟨w.heap.size,1,none⟩) (.inr (Nat.le_refl _)) (.slice none 0 0));refine bodyPost_ret (gX Tryz.results100 rfl rfl hq5 Tryz.underlying54 rfl (by kernel_rfl)) rfl ?_;exact xv htH.out rfl hm5
  ·go_enter Tryz.func100,Tryz.ntmps100;go_wp2_with fail;refine hlist.out.mono ?_;rintro e w1 ⟨rfl,hm1⟩;have hq1:=zh (hm1.at hq0H.out (by simp));have hm1:=zh (hm0H.out.ag hm1);have hcq:=ae hq1.out;have hfq:=ay hq1.out;clear hlist hS0H hq0H hm0H;go_wp2_with fail;have hq5:=(aq (o:=1) (v:=.slice none 0 0) (aq (o:=0) (v:=.int .i64 0) (hq1.out)));have hm5:=(((hm1.out).setCell (p:=⟨w.heap.size,0,none⟩) (.inr (Nat.le_refl _)) (.int .i64 0)).setCell (p:=⟨w.heap.size,1,none⟩) (.inr (Nat.le_refl _)) (.slice none 0 0));refine bodyPost_ret (gX Tryz.results100 rfl rfl hq5 Tryz.underlying54 rfl (by kernel_rfl)) rfl ?_;exact xv htH.out rfl hm5
end Go.Proofs.YtdehaommhbjakaaGreat.Ty
namespace Go.Proofs.YtdehaommhbjakaaGreat.Bw
open RowKit Stg
abbrev ak:=(Int×Int)×(Int×Int)
def ff (a b:Int×Int):Bool:=decide (a.1<b.1)||(decide (a.1=b.1)&&decide (a.2<b.2))
theorem yj (a b:Int×Int):ff a b=true↔a.1<b.1∨(a.1=b.1∧a.2<b.2):=by simp[ff]
theorem vD (a:Int×Int):ff a a=false:=by simp[ff]
theorem vX {a b c:Int×Int} (h:ff a b=true) (k:ff b c=true):ff a c=true:=by rw[yj]at*;omega
theorem Gv {a b:Int×Int} (h:ff a b=true):a≠b:=fun e=>by subst e;rw[vD]at h;cases h
theorem C6 {a b:Int×Int} (h:ff a b=true):ff b a=false:=by
 cases hk:ff b a with
 |false=>rfl
 |true=>rw[yj]at*;omega
theorem vT {a b:Int×Int} (hne:a≠b) (h:ff a b=false):ff b a=true:=by
 cases hk:ff b a with
 |true=>rfl
 |false=>
  exfalso;apply hne;simp only[ff,Bool.or_eq_false_iff,Bool.and_eq_false_iff,decide_eq_false_iff_not]at h hk;obtain⟨a1,a2⟩:=a;obtain⟨b1,b2⟩:=b;simp only[Prod.mk.injEq]at*;omega
def di (L:List ak):Prop:=L.Pairwise fun a b=>ff a.1 b.1=true
theorem di.filter {L:List ak} (h:di L) (p:ak→Bool):di (L.filter p):=List.Pairwise.filter p h
theorem di.unique:∀ {L M:List ak},di L→di M→L.Perm M→L=M
 | [],M,_,_,hp=>(List.Perm.nil_eq hp)
 |a::L,[],_,_,hp=>absurd hp.length_eq (by simp)
 |a::L,b::M,hL,hM,hp=>by
  have hL1:=List.pairwise_cons.1 hL;have hM1:=List.pairwise_cons.1 hM;have e:a=b:=by
   have ha:a∈b::M:=hp.subset (by simp);have hb:b∈a::L:=hp.symm.subset (by simp);rcases List.mem_cons.1 ha with h|h
   ·exact h
   ·rcases List.mem_cons.1 hb with h'|h'
    ·exact h'.symm
    ·have h1:=hM1.1 a h;have h2:=hL1.1 b h';have:=C6 h1;rw[h2]at this;cases this
  subst e;rw[di.unique hL1.2 hM1.2 (List.Perm.cons_inv hp)]
theorem di.nodup {L:List ak} (h:di L):(L.map (·.1)).Nodup:=by
 rw[List.Nodup,List.pairwise_map];exact h.imp fun h=>Gv h
def bW (L:List ak) (k:Int×Int):List ak:=L.filter fun b=>decide (b.1≠k)
theorem px {L:List ak} {k:Int×Int} {b:ak}:b∈bW L k↔b∈L∧b.1≠k:=by simp[bW]
theorem AW {L:List ak} (h:di L) (k:Int×Int):di (bW L k):=h.filter _
def ins (b:ak):List ak→List ak
 | []=>[b]
 |a::l=>if ff b.1 a.1=true then b::a::l else a::ins b l
theorem sJ (b:ak):∀L,(ins b L).Perm (b::L)
 | []=>List.Perm.refl _
 |a::l=>by
  unfold ins;split
  ·exact List.Perm.refl _
  ·exact((sJ b l).cons a).trans (List.Perm.swap b a l)
theorem yk {b:ak}:∀ {L:List ak},di L→(∀a∈L,a.1≠b.1)→di (ins b L)
 | [],_,_=>by simp[ins,di]
 |a::l,h,hn=>by
  have h1:=List.pairwise_cons.1 h;unfold ins;split
  ·rename_i hk;refine List.pairwise_cons.2 ⟨fun x hx=> ?_,h⟩;rcases List.mem_cons.1 hx with rfl|hx
   ·exact hk
   ·exact vX hk (h1.1 x hx)
  ·rename_i hk;refine List.pairwise_cons.2 ⟨fun x hx=> ?_,yk h1.2 fun y hy=>hn y (List.mem_cons_of_mem _ hy)⟩;rcases List.mem_cons.1 ((sJ b l).subset hx)with rfl|hx
   ·exact vT (fun e=>hn a (by simp) e.symm) (by simpa using hk)
   ·exact h1.1 x hx
def gU (L:List ak) (b:ak):List ak:=ins b (bW L b.1)
theorem yr {L:List ak} (h:di L) (b:ak):di (gU L b):=yk (AW h b.1) fun _ ha=>(px.1 ha).2
theorem ig (L:List ak) (b:ak):(gU L b).Perm (b::bW L b.1):=sJ _ _
theorem j4 {L:List ak} {a b:ak}:a∈gU L b↔a=b∨(a∈L∧a.1≠b.1):=by
 rw[(ig L b).mem_iff,List.mem_cons,px]
def aK (L:List ak) (k:Int×Int):Option ak:=L.find? fun b=>decide (b.1=k)
theorem iF {L:List ak} {k:Int×Int} {b:ak} (h:aK L k=some b):b∈L∧b.1=k:=by
 unfold aK at h;exact⟨List.mem_of_find?_eq_some h,by simpa using List.find?_some h⟩
theorem sE {L:List ak} {k:Int×Int} (h:aK L k=none):∀b∈L,b.1≠k:=by
 unfold aK at h;rw[List.find?_eq_none]at h;simpa using h
theorem yC {L:List ak} (h:(L.map (·.1)).Nodup) {b:ak} (hb:b∈L):aK L b.1=some b:=by
 cases hg:aK L b.1 with
 |none=>exact absurd rfl (sE hg b hb)
 |some a=>
  obtain⟨ha,he⟩:=iF hg;congr 1;rw[List.Nodup,List.pairwise_map]at h;by_cases hab:a=b
  ·exact hab
  ·exfalso;obtain⟨i,hi,rfl⟩:=List.mem_iff_getElem.1 ha;obtain⟨j,hj,rfl⟩:=List.mem_iff_getElem.1 hb;rw[List.pairwise_iff_getElem]at h;rcases Nat.lt_trichotomy i j with hij|hij|hij
   ·exact h i j hi hj hij he
   ·subst hij;exact hab rfl
   ·exact h j i hj hi hij he.symm
theorem po {L:List ak} {k:Int×Int} (h:aK L k=none):bW L k=L:=by
 unfold bW;rw[List.filter_eq_self];intro a ha;simpa using sE h a ha
def aW (L:List ak) (o:Int):List ak:=L.filter fun b=>decide (b.1.1=o)
def jt (L:List ak) (h:Int):List ak:=L.filter fun b=>decide (b.1.2=h)
structure dF (N:Int) (L:List ak):Prop where
 gE:di L
 one:∀b∈L,1≤b.2.2∧b.2.2≤N
 mode:∀b∈L,b.2.1=1∨b.2.1=2
 same:∀a∈L,∀b∈L,a.1.1=b.1.1→a.2.1=b.2.1
 nE:∀a∈L,a.2.1=2→a.2.2=1∧∀b∈L,b.1.1=a.1.1→b=a
theorem dF.nil (N:Int):dF N []:=⟨List.Pairwise.nil,by simp,by simp,by simp,by simp⟩
theorem dF.up {N M:Int} {L:List ak} (h:dF N L) (hNM:N≤M):dF M L:=⟨h.gE,fun b hb=>by have:=h.one b hb;omega,h.mode,h.same,h.nE⟩
theorem dF.filter {N:Int} {L:List ak} (h:dF N L) (p:ak→Bool):dF N (L.filter p):=
 ⟨h.gE.filter p,fun b hb=>h.one b (List.mem_filter.1 hb).1,fun b hb=>h.mode b (List.mem_filter.1 hb).1,fun a ha b hb=>h.same a (List.mem_filter.1 ha).1 b (List.mem_filter.1 hb).1,
  fun a ha he=>⟨(h.nE a (List.mem_filter.1 ha).1 he).1,fun b hb e=>(h.nE a (List.mem_filter.1 ha).1 he).2 b (List.mem_filter.1 hb).1 e⟩⟩
def dy (L:List ak) (o:Int):Int:=match aW L o with
 | []=>0
 |b::_=>b.2.1
def gQ (L:List ak) (k:Int×Int):Int:=match aK L k with
 |some b=>b.2.2
 |none=>0
def gq (L:List ak) (o m:Int):Int:=if m≠1∧m≠2 then 1 else if dy L o=2∨(dy L o≠0∧m=2)then 14 else 0
def ei (L:List ak) (o h m:Int):List ak:=if gq L o m=0 then gU L ((o,h),(m,gQ L (o,h)+1))else L
def mI (L:List ak) (k:Int×Int):Int:=match aK L k with
 |some _=>0
 |none=>13
def dH (L:List ak) (k:Int×Int):List ak:=match aK L k with
 |some b=>if b.2.2=1 then bW L k else gU L (k,(b.2.1,b.2.2-1))
 |none=>L
theorem oK {L:List ak} {o:Int} {b:ak}:b∈aW L o↔b∈L∧b.1.1=o:=by simp[aW]
theorem ow {N:Int} {L:List ak} (h:dF N L) {b:ak} (hb:b∈L) {o:Int} (ho:b.1.1=o):dy L o=b.2.1:=by
 unfold dy;have hm:b∈aW L o:=oK.2 ⟨hb,ho⟩
 cases hf:aW L o with
 |nil=>rw[hf]at hm;cases hm
 |cons a l=>
  have ha:=oK.1 (show a∈aW L o by rw[hf];simp);exact h.same a ha.1 b hb (by rw[ha.2,ho])
theorem Be {N:Int} {L:List ak} (h:dF N L) (o:Int):dy L o=0↔aW L o=[]:=by
 constructor
 ·intro h0
  cases hf:aW L o with
  |nil=>rfl
  |cons a l=>
   have ha:=oK.1 (show a∈aW L o by rw[hf];simp);have:=ow h ha.1 ha.2;have:=h.mode a ha.1;omega
 ·intro h0;unfold dy;rw[h0]
theorem pA {N:Int} {L:List ak} (h:dF N L) (o:Int):dy L o=0∨dy L o=1∨dy L o=2:=by
 cases hf:aW L o with
 |nil=>left;unfold dy;rw[hf]
 |cons a l=>
  have ha:=oK.1 (show a∈aW L o by rw[hf];simp);have:=ow h ha.1 ha.2;have:=h.mode a ha.1;omega
theorem uS {N:Int} {L:List ak} (h:dF N L) (h0:0≤N) (k:Int×Int):0≤gQ L k∧gQ L k≤N:=by
 unfold gQ
 cases hg:aK L k with
 |none=>simp;exact h0
 |some b=>have:=h.one b (iF hg).1;simp only;omega
theorem yg {N M:Int} {L:List ak} (h:dF N L) (hNM:N≤M) {b:ak} (h1:1≤b.2.2∧b.2.2≤M) (hm:b.2.1=1∨b.2.1=2) (hs:∀a∈L,a.1.1=b.1.1→a.1≠b.1→a.2.1=1∧b.2.1=1) (he:b.2.1=2→b.2.2=1):dF M (gU L b):=by
 refine⟨yr h.gE b,fun a ha=> ?_,fun a ha=> ?_,fun a ha c hc e=> ?_,fun a ha e=> ?_⟩
 ·rcases j4.1 ha with rfl|⟨ha',_⟩
  ·exact h1
  ·have:=h.one a ha';omega
 ·rcases j4.1 ha with rfl|⟨ha',_⟩
  ·exact hm
  ·exact h.mode a ha'
 ·rcases j4.1 ha with rfl|⟨ha',na⟩<;>rcases j4.1 hc with rfl|⟨hc',nc⟩
  ·rfl
  ·have:=hs c hc' e.symm nc;omega
  ·have:=hs a ha' e na;omega
  ·exact h.same a ha' c hc' e
 ·rcases j4.1 ha with rfl|⟨ha',na⟩
  ·refine⟨he e,fun c hc e2=> ?_⟩;rcases j4.1 hc with rfl|⟨hc',nc⟩
   ·rfl
   ·have:=hs c hc' e2 nc;omega
  ·refine⟨(h.nE a ha' e).1,fun c hc e2=> ?_⟩;rcases j4.1 hc with rfl|⟨hc',nc⟩
   ·have:=hs a ha' e2.symm na;omega
   ·exact(h.nE a ha' e).2 c hc' e2
theorem Eh {N:Int} {L:List ak} (h:dF N L) (h0:0≤N) (o k m:Int):dF (N+1) (ei L o k m):=by
 unfold ei;split
 ·rename_i he;unfold gq at he;split at he
  ·cases he
  ·rename_i hm;split at he
   ·cases he
   ·rename_i hn;have hc:=uS h h0 (o,k);have hz:=Be h o;refine yg h (by omega) (by show 1≤gQ L (o,k)+1∧gQ L (o,k)+1≤N+1;omega) (by show m=1∨m=2;omega) (fun a ha e1 e2=> ?_) (fun e=> ?_)
    ·have hmo:=ow h ha (o:=o) e1;have:=h.mode a ha;show a.2.1=1∧m=1;omega
    ·have e:m=2:=e;have hof:=hz.1 (by omega);show gQ L (o,k)+1=1;unfold gQ
     cases hg:aK L (o,k)with
     |none=>rfl
     |some b=>
      obtain⟨hb,hk⟩:=iF hg;have:b∈aW L o:=oK.2 ⟨hb,by rw[hk]⟩;rw[hof]at this;cases this
 ·exact h.up (by omega)
theorem yi {N:Int} {L:List ak} (h:dF N L) (k:Int×Int):dF N (dH L k):=by
 unfold dH
 cases hg:aK L k with
 |none=>exact h
 |some b=>
  obtain⟨hb,hk⟩:=iF hg;have h1:=h.one b hb;simp only;split
  ·exact h.filter _
  ·rename_i hne;have hb2:b.2.1=1:=by
    rcases h.mode b hb with h'|h'
    ·exact h'
    ·exact absurd (h.nE b hb h').1 hne
   refine yg h (Int.le_refl _) (by show 1≤b.2.2-1∧b.2.2-1≤N;omega) (.inl hb2) (fun a ha e1 e2=> ?_) (fun e=> ?_)
   ·refine⟨?_,hb2⟩;rw[←hb2];exact h.same a ha b hb (by rw[e1,hk])
   ·have e:b.2.1=2:=e;omega
theorem om {L:List ak} (hn:(L.map (·.1)).Nodup) {k:Int×Int} {b:ak} (hg:aK L k=some b):L.Perm (b::bW L k):=by
 obtain⟨hb,hk⟩:=iF hg;obtain⟨A,B,rfl⟩:=List.append_of_mem hb;have hno:∀a∈A++B,a.1≠k:=by
  rw[List.map_append,List.map_cons]at hn;have hn:=(List.perm_middle.nodup_iff).1 hn;rw[List.nodup_cons]at hn;intro a ha e;apply hn.1;rw[←List.map_append,hk, ←e];exact List.mem_map_of_mem ha
 have e:bW (A++b::B) k=A++B:=by
  unfold bW;rw[List.filter_append,List.filter_cons,if_neg (by simp[hk]),List.filter_eq_self.2 (fun a ha=>by simpa using hno a (List.mem_append_left _ ha)),List.filter_eq_self.2 (fun a ha=>by simpa using hno a (List.mem_append_right _ ha))]
 rw[e];exact List.perm_middle
theorem xE {L M:List ak} (h:L.Perm M) (o:Int):(aW L o).Perm (aW M o):=h.filter _
theorem xP (b:ak) (L:List ak) (o:Int):(aW (b::L) o).length=(if b.1.1=o then 1 else 0)+(aW L o).length:=by
 unfold aW;rw[List.filter_cons];by_cases h:b.1.1=o
 ·simp[h];omega
 ·simp[h]
theorem Cw {N:Int} {L:List ak} (h:dF N L) {o k m:Int} {b:ak} (hg:aK L (o,k)=some b) (he:gq L o m=0):b=((o,k),(m,b.2.2)):=by
 obtain⟨hb,hk⟩:=iF hg;have hm:=ow h hb (o:=o) (by rw[hk]);have hr:=h.mode b hb;have:b.2.1=m:=by
  unfold gq at he;split at he
  ·cases he
  ·split at he
   ·cases he
   ·omega
 obtain⟨bk,bm,bc⟩:=b;simp only at*;rw[hk,this]
theorem rM {L:List ak} {k:Int×Int} {b:ak} (hg:aK L k=some b):gQ L k=b.2.2:=by unfold gQ;rw[hg]
theorem nV {L:List ak} {k:Int×Int} (hg:aK L k=none):gQ L k=0:=by unfold gQ;rw[hg]
theorem rz {L:List ak} (hn:(L.map (·.1)).Nodup) {k:Int×Int} {b:ak} (hg:aK L k=some b) (o:Int):(aW L o).length=(if k.1=o then 1 else 0)+(aW (bW L k) o).length:=by
 rw[(xE (om hn hg) o).length_eq,xP,(iF hg).2]
theorem yx (L:List ak) (b:ak) (o:Int):(aW (gU L b) o).length=(if b.1.1=o then 1 else 0)+(aW (bW L b.1) o).length:=by
 rw[(xE (ig L b) o).length_eq,xP]
theorem pw {L:List ak} (hn:(L.map (·.1)).Nodup) {x b:ak} (hg:aK L b.1=some x) (o:Int):(aW (gU L b) o).length=(aW L o).length:=by
 rw[yx,rz hn hg]
theorem nS {L:List ak} {b:ak} (hg:aK L b.1=none) (o:Int):(aW (gU L b) o).length=(if b.1.1=o then 1 else 0)+(aW L o).length:=by
 rw[yx,po hg]
def cut (L:List ak) (p:ak→Bool):List ak:=L.filter fun b=> !p b
theorem FY (L:List ak) (b:ak):(gU L b).length≤L.length+1:=by
 rw[(ig L b).length_eq,List.length_cons];have:(bW L b.1).length≤L.length:=List.length_filter_le _ _;omega
theorem Fj (L:List ak) (o k m:Int):(ei L o k m).length≤L.length+1:=by
 unfold ei;split
 ·exact FY _ _
 ·omega
theorem FO {L:List ak} (hn:(L.map (·.1)).Nodup) (k:Int×Int):(dH L k).length≤L.length:=by
 unfold dH
 cases hg:aK L k with
 |none=>exact Nat.le_refl _
 |some b=>
  simp only;split
  ·exact List.length_filter_le _ _
  ·rw[(ig L _).length_eq,(om hn hg).length_eq];exact Nat.le_refl _
def kv (k:Int×Int):Value:=.agg #[.int .i64 k.1,.int .i64 k.2]
def cZ (b:ak):List Value:=[.int .i64 b.1.1,.int .i64 b.1.2,.int .i64 b.2.1,.int .i64 b.2.2]
def bv (b:ak):Value:=.agg #[.int .i64 b.1.1,.int .i64 b.1.2,.int .i64 b.2.1,.int .i64 b.2.2]
def b0:ak:=((0,0),(0,0))
def fy (es:List MapEntry) (bs:List ak):Prop:=es.map (·.key)=bs.map (fun b=>kv b.1)∧es.map (·.val)=bs.map bv
theorem fy.cons {e:MapEntry} {es:List MapEntry} {b:ak} {bs:List ak}:fy (e::es) (b::bs)↔e.key=kv b.1∧e.val=bv b∧fy es bs:=by
 simp only[fy,List.map_cons,List.cons.injEq];constructor
 ·rintro⟨⟨h1,h2⟩,h3,h4⟩;exact⟨h1,h3,h2,h4⟩
 ·rintro⟨h1,h3,h2,h4⟩;exact⟨⟨h1,h2⟩,h3,h4⟩
theorem fy.length {es:List MapEntry} {bs:List ak} (h:fy es bs):es.length=bs.length:=by simpa using congrArg List.length h.1
theorem fy.get {es:List MapEntry} {bs:List ak} (h:fy es bs) {i:Nat} {e:MapEntry} (he:es[i]? =some e):∃b,bs[i]? =some b∧e.key=kv b.1∧e.val=bv b:=by
 have h1:=congrArg (·[i]?) h.1;have h2:=congrArg (·[i]?) h.2;simp only[List.getElem?_map,he,Option.map_some]at h1 h2
 cases hb:bs[i]? with
 |none=>rw[hb]at h1;simp at h1
 |some b=>
  rw[hb]at h1 h2;simp at h1 h2;exact⟨b,rfl,h1,h2⟩
theorem GM (p q:Int×Int) (w:World):(Op.equalIn Op.maxDepth 269 (kv p) (kv q)).run Tryz.prog w=.ok (p.1==q.1&&p.2==q.2) w:=by
 have u3:=Tryz.underlying3;have a3:=Tryz.isAgg3;have z3:=Tryz.sizeOf3;unfold kv;rw[show Op.maxDepth=9999+1 from rfl,run_equalIn_struct w 9999 269 _ _ Tryz.underlying269 (by kernel_rfl)];go_simp;by_cases h1:p.1=q.1<;>by_cases h2:p.2=q.2<;>simp[h1,h2]
theorem pZ (e:Bool) (p:Int×Int) (w:World):(Instr.checkKey e 10000 269 (kv p)).run Tryz.prog w=.ok () w:=by
 have z3:=Tryz.sizeOf3;have a3:=Tryz.isAgg3;have hc:∀v w,(Instr.checkKey e 9999 3 v).run Tryz.prog w=.ok () w:=fun v w=>by
  rw[show(9999:Nat)=9998+1 from rfl];unfold Instr.checkKey;simp[run_underlying Tryz.underlying3]
 rw[show(10000:Nat)=9999+1 from rfl];unfold Instr.checkKey kv;simp only[Sem.run_bind,run_underlying Tryz.underlying269,Result.andThen_ok];go_simp
theorem kG {α β:Type} (f:α→β):∀(l:List α) (i:Nat),(l.eraseIdx i).map f=(l.map f).eraseIdx i
 | [],_=>rfl
 |_::_,0=>rfl
 |a::l,i+1=>by simp[kG f l i]
def iw (k:Int×Int):List ak→Nat→Option (Nat×Value)
 | [],_=>none
 |b::r,i=>if b.1=k then some (i,bv b)else iw k r (i+1)
theorem y8 (k:Int×Int) (w:World):∀(es:List MapEntry) (bs:List ak) (i:Nat),fy es bs→(Instr.findAsking 269 (kv k) es i).run Tryz.prog w=.ok (iw k bs i) w
 | [],[],i,_=>by simp[Instr.findAsking,iw]
 | [],_::_,_,h=>by simp[fy]at h
 |_::_,[],_,h=>by simp[fy]at h
 |e::es,b::bs,i,h=>by
  obtain⟨h1,h2,h3⟩:=fy.cons.1 h;have he:=GM k b.1 w;have ih:=y8 k w es bs (i+1) h3;unfold Instr.findAsking iw;by_cases hk:b.1=k
  ·subst hk;have hb:(b.1.1==b.1.1&&b.1.2==b.1.2)=true:=by simp
   rw[hb]at he;simp[h1,h2,Op.equal,he]
  ·have hb:(k.1==b.1.1&&k.2==b.1.2)=false:=by
    simp only[Bool.and_eq_false_iff,beq_eq_false_iff_ne];by_cases h:k.1=b.1.1
    ·right;exact fun h'=>hk (Prod.ext h.symm h'.symm)
    ·exact .inl h
   rw[hb]at he;simp[h1,hk,Op.equal,he,ih]
theorem qc (k:Int×Int) (w:World) (es:List MapEntry) (bs:List ak) (h:fy es bs):(Instr.findKey 269 (kv k) es).run Tryz.prog w=.ok (iw k bs 0) w:=by
 have ha:=y8 k w es bs 0 h;unfold Instr.findKey
 cases es with
 |nil=>
  cases bs with
  |nil=>simp[run_underlying Tryz.underlying269,Instr.findNow,iw]
  |cons b bs=>simp[fy]at h
 |cons e es=>simp[run_underlying Tryz.underlying269,Instr.findNow,Instr.sameNow,ha]
theorem pO (k:Int×Int):∀(bs:List ak) (i:Nat),iw k bs i=none→aK bs k=none
 | [],_,_=>rfl
 |b::r,i,h=>by
  unfold iw at h;split at h
  ·cases h
  ·rename_i hn;unfold aK;rw[List.find?_cons_of_neg (by simpa using hn)];exact pO k r (i+1) h
theorem pU (k:Int×Int):∀(bs:List ak) (i j:Nat) (v:Value),iw k bs i=some (j,v)→∃d b,j=i+d∧bs[d]? =some b∧b.1=k∧v=bv b∧aK bs k=some b
 | [],_,_,_,h=>by simp[iw]at h
 |b::r,i,j,v,h=>by
  unfold iw at h;split at h
  ·rename_i hk;simp only[Option.some.injEq,Prod.mk.injEq]at h;obtain⟨rfl,rfl⟩:=h;exact⟨0,b,rfl,rfl,hk,rfl,by unfold aK;rw[List.find?_cons_of_pos (by simpa using hk)]⟩
  ·rename_i hn;obtain⟨d,b',h1,h2,h3,h4,h5⟩:=pU k r (i+1) j v h;exact⟨d+1,b',by omega,by simpa using h2,h3,h4,by unfold aK at h5⊢;rw[List.find?_cons_of_neg (by simpa using hn)];exact h5⟩
def dg (w:World) (mb:Nat) (bs:List ak):Prop:=∃es c,w.heap[mb]? =some (.map es c)∧fy es.toList bs∧(es.toList.map (·.born)).Pairwise (· < ·)∧∀e∈es.toList,e.born<c
theorem dg.mod {S:List Nat} {w w':World} {mb:Nat} {bs:List ak} (h:dg w mb bs) (hm:Mod S w w') (hS:mb∉S):dg w' mb bs:=by
 obtain⟨es,c,h1,h2⟩:=h;exact⟨es,c,hm.at h1 hS,h2⟩
theorem dg.lt {w:World} {mb:Nat} {bs:List ak} (h:dg w mb bs):mb<w.heap.size:=by
 obtain⟨es,c,h1,h2⟩:=h;exact aL h1
def fO (o:Option ak):Value:=match o with
 |some b=>.tuple #[bv b,.bool true]
 |none=>.tuple #[bv b0,.bool false]
theorem ns {w:World} {mb:Nat} {bs:List ak} (h:dg w mb bs) (k:Int×Int):(Instr.lookup 157 (.map (some mb)) (.agg #[.int .i64 k.1,.int .i64 k.2]) true).run Tryz.prog w=.ok (fO (aK bs k)) w:=by
 obtain⟨es,c,hb,hk,_⟩:=h;have hf:=qc k w es.toList bs hk;have hc:=pZ es.isEmpty k w;unfold kv at hf hc;unfold Instr.lookup
 cases ha:iw k bs 0 with
 |none=>
  rw[ha]at hf;rw[pO k bs 0 ha];simp[run_underlying Tryz.underlying157,Stg.run_getObj_map hb,hf,hc,Tryz.zeroValue222,fO];rfl
 |some p=>
  obtain⟨j,v⟩:=p;rw[ha]at hf;obtain⟨d,b,_,_,_,hv,hg⟩:=pU k bs 0 j v ha;rw[hg];subst hv;simp[run_underlying Tryz.underlying157,Stg.run_getObj_map hb,hf,hc,fO]
theorem look_nil (w:World) (k:Int×Int):(Instr.lookup 157 (.map none) (.agg #[.int .i64 k.1,.int .i64 k.2]) true).run Tryz.prog w=.ok (fO none) w:=by
 have hf:=qc k w [] [] ⟨rfl,rfl⟩;have hc:=pZ true k w;unfold kv at hf hc;unfold Instr.lookup;simp[run_underlying Tryz.underlying157,hf,hc,Tryz.zeroValue222,fO,iw];rfl
theorem set_perm {bs:List ak} (hn:(bs.map (·.1)).Nodup) {d:Nat} {x b:ak} (hd:bs[d]? =some x) (hg:aK bs b.1=some x):(bs.set d b).Perm (b::bW bs b.1):=by
 obtain⟨hlt,he⟩:=List.getElem?_eq_some_iff.1 hd;have h1:=om hn hg;have h2:bs.Perm (x::bs.eraseIdx d):=by
  rw[List.eraseIdx_eq_take_drop_succ];have e:bs=bs.take d++x::bs.drop (d+1):=by rw[←he,List.getElem_cons_drop,List.take_append_drop]
  have:=List.perm_middle (a:=x) (l₁:=bs.take d) (l₂:=bs.drop (d+1));rw[←e]at this;exact this
 have h3:(bs.eraseIdx d).Perm (bW bs b.1):=List.Perm.cons_inv (h2.symm.trans h1);have h4:(bs.set d b).Perm (b::bs.eraseIdx d):=by
  rw[List.set_eq_take_append_cons_drop,if_pos hlt,List.eraseIdx_eq_take_drop_succ];exact List.perm_middle
 exact h4.trans (h3.cons b)
theorem Bb {bs:List ak} (hn:(bs.map (·.1)).Nodup) {k:Int×Int} {d:Nat} {x:ak} (hd:bs[d]? =some x) (hg:aK bs k=some x):(bs.eraseIdx d).Perm (bW bs k):=by
 obtain⟨hlt,he⟩:=List.getElem?_eq_some_iff.1 hd;have h1:=om hn hg;have h2:bs.Perm (x::bs.eraseIdx d):=by
  rw[List.eraseIdx_eq_take_drop_succ];have e:bs=bs.take d++x::bs.drop (d+1):=by rw[←he,List.getElem_cons_drop,List.take_append_drop]
  have:=List.perm_middle (a:=x) (l₁:=bs.take d) (l₂:=bs.drop (d+1));rw[←e]at this;exact this
 exact List.Perm.cons_inv (h2.symm.trans h1)
theorem kT {w:World} {mb:Nat} {bs:List ak} (h:dg w mb bs) (hn:(bs.map (·.1)).Nodup) (b:ak):∃w' bs',(Instr.mapUpdate 157 (.map (some mb)) (.agg #[.int .i64 b.1.1,.int .i64 b.1.2]) (.agg #[.int .i64 b.1.1,.int .i64 b.1.2,.int .i64 b.2.1,.int .i64 b.2.2])).run Tryz.prog w=.ok () w'∧dg w' mb bs'∧Mod [mb] w w'∧w'.heap.size=w.heap.size∧bs'.Perm (b::bW bs b.1):=by
 obtain⟨es,c,hb,hk,hp,hc⟩:=h;have hf:=qc b.1 w es.toList bs hk;have hck:=pZ false b.1 w;unfold kv at hf hck
 cases ha:iw b.1 bs 0 with
 |none=>
  rw[ha]at hf;have hg:=pO b.1 bs 0 ha;refine⟨{w with heap:=w.heap.setIfInBounds mb (.map (es.push {key:=kv b.1,val:=bv b,born:=c}) (c+1))},bs++[b],?_,⟨_,_,ie hb,?_,?_,?_⟩,(Mod.refl _ w).gj (.inl (by simp)) _,by simp,?_⟩
  ·unfold Instr.mapUpdate;simp[run_underlying Tryz.underlying157,Stg.run_getObj_map hb,hf,hck,Stg.run_setObj_map hb,kv,bv]
  ·rw[Array.toList_push];exact⟨by rw[List.map_append,List.map_append,hk.1];rfl,by rw[List.map_append,List.map_append,hk.2];rfl⟩
  ·rw[Array.toList_push,List.map_append,List.pairwise_append];refine⟨hp,by simp,fun x hx y hy=> ?_⟩;obtain⟨e,he,rfl⟩:=List.mem_map.1 hx;simp at hy;subst hy;exact hc e he
  ·intro e he;rw[Array.toList_push]at he;rcases List.mem_append.1 he with he|he
   ·have:=hc e he;omega
   ·rw[List.mem_singleton.1 he];exact Nat.lt_succ_self c
  ·rw[po hg];exact List.perm_append_comm
 |some p=>
  obtain⟨j,v⟩:=p;rw[ha]at hf;obtain⟨d,x,hj,hd,hx,hv,hg⟩:=pU b.1 bs 0 j v ha;obtain rfl:j=d:=by omega
  have hlt:j<es.toList.length:=by rw[hk.length];exact(List.getElem?_eq_some_iff.1 hd).1
  have hej:es.toList[j]? =some es.toList[j]:=List.getElem?_eq_getElem hlt;obtain⟨x',hx',hkey,_⟩:=hk.get hej;obtain rfl:x'=x:=Option.some.inj (hx'.symm.trans hd);have hej2:es[j]? =some es.toList[j]:=by rw[←Array.getElem?_toList];exact hej
  refine⟨{w with heap:=w.heap.setIfInBounds mb (.map (es.modify j fun e=>{e with key:=kv b.1,val:=bv b}) c)},bs.set j b,?_,⟨_,_,ie hb,?_,?_,?_⟩,(Mod.refl _ w).gj (.inl (by simp)) _,by simp,set_perm hn hd hg⟩
  ·unfold Instr.mapUpdate;rw[hx]at hkey;have hkey':es[j]'(by simpa using hlt)=es.toList[j]:=by simp
   rw[←hkey']at hkey hej2;unfold kv at hkey;simp[run_underlying Tryz.underlying157,Stg.run_getObj_map hb,hf,hck,Stg.run_setObj_map hb,kv,bv,hej2,hkey,Instr.keyThatStays,Instr.sameBits]
  ·rw[Array.toList_modify];refine⟨?_,?_⟩
   ·apply List.ext_getElem?;intro i;have h1:=congrArg (·[i]?) hk.1;simp only[List.getElem?_map]at h1;rw[List.getElem?_map,List.getElem?_map,List.getElem?_modify,List.getElem?_set];by_cases hij:j=i
    ·subst hij;have hl2:j<bs.length:=(List.getElem?_eq_some_iff.1 hd).1;simp[hej,hl2]
    ·simpa[hij]using h1
   ·apply List.ext_getElem?;intro i;have h1:=congrArg (·[i]?) hk.2;simp only[List.getElem?_map]at h1;rw[List.getElem?_map,List.getElem?_map,List.getElem?_modify,List.getElem?_set];by_cases hij:j=i
    ·subst hij;have hl2:j<bs.length:=(List.getElem?_eq_some_iff.1 hd).1;simp[hej,hl2]
    ·simpa[hij]using h1
  ·have e:(es.modify j fun e=>{e with key:=kv b.1,val:=bv b}).toList.map (·.born)=es.toList.map (·.born):=by
    rw[Array.toList_modify];apply List.ext_getElem?;intro i;rw[List.getElem?_map,List.getElem?_map,List.getElem?_modify]
    cases es.toList[i]? with
    |none=>rfl
    |some e=>by_cases hij:j=i<;>simp[hij]
   rw[e];exact hp
  ·intro e he;rw[Array.toList_modify]at he;obtain⟨i,hi,rfl⟩:=List.mem_iff_getElem.1 he;rw[List.getElem_modify];have:=hc _ (List.getElem_mem (show i<es.toList.length by simpa using hi));split<;>exact this
theorem G3 {w:World} {mb:Nat} {bs:List ak} (h:dg w mb bs) (hn:(bs.map (·.1)).Nodup) (k:Int×Int) (ty:TypeId):∃w' bs',(Builtin.delete_ #[157,269] ty #[.map (some mb),.agg #[.int .i64 k.1,.int .i64 k.2]]).run Tryz.prog w=.ok (.tuple #[]) w'∧dg w' mb bs'∧Mod [mb] w w'∧w'.heap.size=w.heap.size∧bs'.Perm (bW bs k):=by
 obtain⟨es,c,hb,hk,hp,hc⟩:=h;have hf:=qc k w es.toList bs hk;have hck:=pZ es.isEmpty k w;unfold kv at hf hck
 cases ha:iw k bs 0 with
 |none=>
  rw[ha]at hf;have hg:=pO k bs 0 ha;refine⟨{w with heap:=w.heap.setIfInBounds mb (.map es c)},bs,?_,⟨_,_,ie hb,hk,hp,hc⟩,(Mod.refl _ w).gj (.inl (by simp)) _,by simp,by rw[po hg]⟩;unfold Builtin.delete_;simp[run_underlying Tryz.underlying157,Stg.run_getObj_map hb,hf,hck,Stg.run_setObj_map hb]
 |some p=>
  obtain⟨j,v⟩:=p;rw[ha]at hf;obtain⟨d,x,hj,hd,hx,hv,hg⟩:=pU k bs 0 j v ha;obtain rfl:j=d:=by omega
  have hlt:j<es.size:=by
   have:=hk.length;have:=(List.getElem?_eq_some_iff.1 hd).1;simp at*;omega
  have he:(es.eraseIdxIfInBounds j).toList=es.toList.eraseIdx j:=by simp[Array.eraseIdxIfInBounds,hlt]
  refine⟨{w with heap:=w.heap.setIfInBounds mb (.map (es.eraseIdxIfInBounds j) c)},bs.eraseIdx j,?_,⟨_,_,ie hb,?_,?_,?_⟩,(Mod.refl _ w).gj (.inl (by simp)) _,by simp,Bb hn hd hg⟩
  ·unfold Builtin.delete_;simp[run_underlying Tryz.underlying157,Stg.run_getObj_map hb,hf,hck,Stg.run_setObj_map hb]
  ·rw[he];exact⟨by rw[kG,hk.1, ←kG],by rw[kG,hk.2, ←kG]⟩
  ·rw[he];exact hp.sublist ((List.eraseIdx_sublist _ _).map _)
  ·rw[he];intro e he;exact hc e ((List.eraseIdx_sublist _ _).mem he)
end Go.Proofs.YtdehaommhbjakaaGreat.Bw
