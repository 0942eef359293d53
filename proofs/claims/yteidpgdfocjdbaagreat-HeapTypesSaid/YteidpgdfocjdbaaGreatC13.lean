/- Joined contracts. No conditions. -/
import Derived.Test.YteidpgdfocjdbaaGreatCS
import Derived.Test.YteidpgdfocjdbaaGreatC01
import Derived.Test.YteidpgdfocjdbaaGreatC12
set_option maxHeartbeats 4000000
namespace Go.Proofs.YteidpgdfocjdbaaGreat.Ty
open Go Go.RowKit Go.Stg
theorem new_ok (w:World):Calls Tryz.prog 20 #[] w fun e w'=>e=.returned (.pointer (some ⟨w.heap.size,0,none⟩))∧w'=w.alloc (.cells #[.slice none 0 0] 135):=by
 go_enter Tryz.func20,Tryz.ntmps20;go_wp2_with fail;go_ret;exact⟨rfl,rfl⟩
theorem reg_fresh (T:TypeId) {w:World} {b:Nat} (h:w.heap[b]? =some (.cells #[.slice none 0 0] T (0,0))):(regC T b []).on w ([b]++([]++([]++[]))):=
 ⟨.slice none 0 0,[],rfl,by simp,by simp,[b],_,⟨h,rfl⟩,⟨[],_,⟨World.ownsRow_nil _ _ _ _,rfl⟩,⟨[],[],⟨by simp,rfl⟩,rfl,by simp,rfl⟩,by simp,rfl⟩,by simp,rfl⟩
def lookT (R:List Ty) (tag:Int):Ty:=if 1≤tag∧tag≤R.length then R.getD (tag-1).toNat (0,[])else(0,[])
def lookE (R:List Ty) (tag:Int):Int:=if 1≤tag∧tag≤R.length then 0 else 20
def LookPost (R:List Ty) (tag:Int) (w:World) (e:Ending) (w':World):Prop:=∃v',e=.returned (.tuple #[.agg #[.int .i64 (lookT R tag).1,v'],.int .i64 (lookE R tag)])∧FieldsAt w' v' (lookT R tag).2∧Mod [] w w'
theorem look_bad {R:List Ty} {tag:Int} {w w':World} (h:¬(1≤tag∧tag≤R.length)) {e:Ending} (he:e=.returned (.tuple #[.agg #[.int .i64 0,.slice none 0 0],.int .i64 20])) (hm:Mod [] w w'):LookPost R tag w e w':=by
 unfold LookPost lookT lookE;rw[if_neg h,if_neg h];exact⟨_,he,.inl ⟨rfl,rfl⟩,hm⟩
theorem look_at {R:List Ty} {tag:Int} (h1:1≤tag) (h2:tag≤R.length) {L:List (Ty×Value)} (hL:L.map (·.1)=R) (hk:(tag-1).toNat<L.length):lookT R tag=L[(tag-1).toNat].1∧lookE R tag=0:=by
 unfold lookT lookE;rw[if_pos ⟨h1,h2⟩,if_pos ⟨h1,h2⟩];subst hL;rw[List.getD_eq_getElem?_getD,List.getElem?_map,List.getElem?_eq_getElem hk];exact⟨rfl,rfl⟩
theorem lookup_ok {rb:Nat} {R:List Ty} {w:World} {f:List Nat} (h:(regC 135 rb R).on w f) (tag:Int):
  Calls Tryz.prog 37 #[.pointer (some ⟨rb,0,none⟩),.int .i64 tag] w (LookPost R tag w):=by
 obtain⟨sv,L,hLR,hok,h255,hH⟩:=h;have hlenR:L.length=R.length:=by rw[←hLR,List.length_map]
 have hL255:L.length≤255:=by omega
 have hm0:=(Mod.refl [] w).alloc (.cells #[.int .i64 0,.slice none 0 0] 25);have hq0:=at_alloc w (.cells #[.int .i64 0,.slice none 0 0] 25);have hS0:=(Scene.start hH).then hm0
 have hlist:=Lib.hid (list_ok (hS0.block 0 rfl));have hln:=fun ty w=>row_len (ty:=ty) Tryz.underlying40 (hS0.row 1 rfl) w
 have hq0H:=Lib.hid hq0;have hm0H:=Lib.hid hm0;have hS0H:=Lib.hid hS0;have hokH:=Lib.hid hok;have hLRH:=Lib.hid hLR;have hwl:w.heap.size<(w.alloc (.cells #[.int .i64 0,.slice none 0 0] 25)).heap.size:=by simp
 clear hH hok hLR hq0 hS0 hm0;by_cases ht:1≤tag∧tag≤R.length
 ·obtain⟨h1,h2⟩:=ht;have hk:(tag-1).toNat<L.length:=by omega
  obtain⟨e1,e2⟩:=look_at h1 h2 hLRH.out hk;have e1H:=Lib.hid e1;have e2H:=Lib.hid e2;have hn:(((tag-1).toNat:Nat):Int)=tag-1:=by omega
  have hlenH:=Lib.hid hlenR;clear e1 e2 hlenR;generalize hkk:(tag-1).toNat=k at*;obtain⟨g,cap,rfl,hg,_,_⟩:=ty_cells (hS0H.out.row 1 rfl) rfl hk;have hkH:=Lib.hid hkk;have htk:tag=k+1:=by omega
  have hle:(k:Int)+1≤L.length:=by omega
  clear hkk hn h1 h2;subst htk;go_enter Tryz.func37,Tryz.ntmps37;go_wp2_with fail;refine hlist.out.mono ?_;rintro e w1 ⟨rfl,hm1⟩;have hS1:=Lib.hid (hS0H.out.then hm1);have hq1:=Lib.hid (hm1.at hq0H.out (by simp));have hm1:=Lib.hid (hm0H.out.nil_then hm1);have hF:=Lib.hid (scene_fields 2 hS1.out rfl _ (List.getElem_mem hk));have hok1:=hokH.out _ (by rw[←hLRH.out];exact List.mem_map_of_mem (List.getElem_mem hk));have hfl:=hok1.bounds.2.2;obtain⟨g',cap',e,_,r0,r1⟩:=ty_cells (hS1.out.row 1 rfl) rfl hk;simp at e;obtain⟨rfl,rfl⟩:=e;clear hlist hS0H hq0H hm0H hok1;go_wp2_with fail;refine(copied_ok _ _ _ (by omega) _ hF.out).mono ?_;rintro e w2 ⟨v',rfl,hr,hm2⟩;have hq2:=Lib.hid (hm2.at hq1.out (by simp));have hm3:=Lib.hid (hm1.out.nil_then hm2);have hlt:=hr.lt;obtain⟨va,vm,vc,rfl⟩:=row_src hr;have hrH:=Lib.hid hr;have hcq:=cells_of hq2.out;have hfq:=frozen_of hq2.out;have hw2:=lt_of hq1.out;clear hF r0 r1 hq1 hm1 hr hS1;go_wp2_with fail;have hq5:=(at_setCell (o:=1) (v:=.slice va vm vc) (at_setCell (o:=0) (v:=.int .i64 L[k].1.1) (hq2.out)));have hm5:=(((hm3.out).setCell (p:=⟨w.heap.size,0,none⟩) (.inr (Nat.le_refl _)) (.int .i64 L[k].1.1)).setCell (p:=⟨w.heap.size,1,none⟩) (.inr (Nat.le_refl _)) (.slice va vm vc));refine bodyPost_ret (ret_cell_tmp Tryz.results37 rfl rfl hq5 Tryz.underlying25 rfl (by kernel_rfl)) rfl ?_;unfold LookPost;rw[e1H.out,e2H.out];refine⟨.slice va vm vc,rfl,?_,hm5⟩;have hm6:=((Mod.refl [w.heap.size] w2).setCell (p:=⟨w.heap.size,0,none⟩) (.inl (by simp)) (.int .i64 L[k].1.1)).setCell (p:=⟨w.heap.size,1,none⟩) (.inl (by simp)) (.slice va vm vc);exact row_fields (row_mod hrH.out hm6 (fun g hg=>by have:=(hlt g hg).1;simp;omega)) rfl
 ·have htH:=Lib.hid ht;have hd:tag<1∨(¬tag<1∧(L.length:Int)<tag):=by omega
  clear ht hlenR;rcases hd with h1|⟨h1,h2⟩
  ·go_enter Tryz.func37,Tryz.ntmps37;go_wp2_with fail;refine hlist.out.mono ?_;rintro e w1 ⟨rfl,hm1⟩;have hq1:=Lib.hid (hm1.at hq0H.out (by simp));have hm1:=Lib.hid (hm0H.out.nil_then hm1);have hcq:=cells_of hq1.out;have hfq:=frozen_of hq1.out;clear hlist hS0H hq0H hm0H;go_wp2_with fail;have hq5:=(at_setCell (o:=1) (v:=.slice none 0 0) (at_setCell (o:=0) (v:=.int .i64 0) (hq1.out)));have hm5:=(((hm1.out).setCell (p:=⟨w.heap.size,0,none⟩) (.inr (Nat.le_refl _)) (.int .i64 0)).setCell (p:=⟨w.heap.size,1,none⟩) (.inr (Nat.le_refl _)) (.slice none 0 0));refine bodyPost_ret (ret_cell_tmp Tryz.results37 rfl rfl hq5 Tryz.underlying25 rfl (by kernel_rfl)) rfl ?_;exact look_bad htH.out rfl hm5
  ·go_enter Tryz.func37,Tryz.ntmps37;go_wp2_with fail;refine hlist.out.mono ?_;rintro e w1 ⟨rfl,hm1⟩;have hq1:=Lib.hid (hm1.at hq0H.out (by simp));have hm1:=Lib.hid (hm0H.out.nil_then hm1);have hcq:=cells_of hq1.out;have hfq:=frozen_of hq1.out;clear hlist hS0H hq0H hm0H;go_wp2_with fail;have hq5:=(at_setCell (o:=1) (v:=.slice none 0 0) (at_setCell (o:=0) (v:=.int .i64 0) (hq1.out)));have hm5:=(((hm1.out).setCell (p:=⟨w.heap.size,0,none⟩) (.inr (Nat.le_refl _)) (.int .i64 0)).setCell (p:=⟨w.heap.size,1,none⟩) (.inr (Nat.le_refl _)) (.slice none 0 0));refine bodyPost_ret (ret_cell_tmp Tryz.results37 rfl rfl hq5 Tryz.underlying25 rfl (by kernel_rfl)) rfl ?_;exact look_bad htH.out rfl hm5
end Go.Proofs.YteidpgdfocjdbaaGreat.Ty
namespace Go.Proofs.YteidpgdfocjdbaaGreat.Bw
open Go Go.RowKit Go.Stg
abbrev Bor:=(Int×Int)×(Int×Int)
def klt (a b:Int×Int):Bool:=decide (a.1<b.1)||(decide (a.1=b.1)&&decide (a.2<b.2))
theorem klt_iff (a b:Int×Int):klt a b=true↔a.1<b.1∨(a.1=b.1∧a.2<b.2):=by simp[klt]
theorem klt_irrefl (a:Int×Int):klt a a=false:=by simp[klt]
theorem klt_trans {a b c:Int×Int} (h:klt a b=true) (k:klt b c=true):klt a c=true:=by rw[klt_iff]at*;omega
theorem klt_ne {a b:Int×Int} (h:klt a b=true):a≠b:=fun e=>by subst e;rw[klt_irrefl]at h;cases h
theorem klt_asymm {a b:Int×Int} (h:klt a b=true):klt b a=false:=by
 cases hk:klt b a with
 |false=>rfl
 |true=>rw[klt_iff]at*;omega
theorem klt_total {a b:Int×Int} (hne:a≠b) (h:klt a b=false):klt b a=true:=by
 cases hk:klt b a with
 |true=>rfl
 |false=>
  exfalso;apply hne;simp only[klt,Bool.or_eq_false_iff,Bool.and_eq_false_iff,decide_eq_false_iff_not]at h hk;obtain⟨a1,a2⟩:=a;obtain⟨b1,b2⟩:=b;simp only[Prod.mk.injEq]at*;omega
def Srt (L:List Bor):Prop:=L.Pairwise fun a b=>klt a.1 b.1=true
theorem Srt.filter {L:List Bor} (h:Srt L) (p:Bor→Bool):Srt (L.filter p):=List.Pairwise.filter p h
theorem Srt.unique:∀ {L M:List Bor},Srt L→Srt M→L.Perm M→L=M
 | [],M,_,_,hp=>(List.Perm.nil_eq hp)
 |a::L,[],_,_,hp=>absurd hp.length_eq (by simp)
 |a::L,b::M,hL,hM,hp=>by
  have hL1:=List.pairwise_cons.1 hL;have hM1:=List.pairwise_cons.1 hM;have e:a=b:=by
   have ha:a∈b::M:=hp.subset (by simp);have hb:b∈a::L:=hp.symm.subset (by simp);rcases List.mem_cons.1 ha with h|h
   ·exact h
   ·rcases List.mem_cons.1 hb with h'|h'
    ·exact h'.symm
    ·have h1:=hM1.1 a h;have h2:=hL1.1 b h';have:=klt_asymm h1;rw[h2]at this;cases this
  subst e;rw[Srt.unique hL1.2 hM1.2 (List.Perm.cons_inv hp)]
theorem Srt.nodup {L:List Bor} (h:Srt L):(L.map (·.1)).Nodup:=by
 rw[List.Nodup,List.pairwise_map];exact h.imp fun h=>klt_ne h
def without (L:List Bor) (k:Int×Int):List Bor:=L.filter fun b=>decide (b.1≠k)
theorem without_mem {L:List Bor} {k:Int×Int} {b:Bor}:b∈without L k↔b∈L∧b.1≠k:=by simp[without]
theorem without_srt {L:List Bor} (h:Srt L) (k:Int×Int):Srt (without L k):=h.filter _
def ins (b:Bor):List Bor→List Bor
 | []=>[b]
 |a::l=>if klt b.1 a.1=true then b::a::l else a::ins b l
theorem ins_perm (b:Bor):∀L,(ins b L).Perm (b::L)
 | []=>List.Perm.refl _
 |a::l=>by
  unfold ins;split
  ·exact List.Perm.refl _
  ·exact((ins_perm b l).cons a).trans (List.Perm.swap b a l)
theorem ins_srt {b:Bor}:∀ {L:List Bor},Srt L→(∀a∈L,a.1≠b.1)→Srt (ins b L)
 | [],_,_=>by simp[ins,Srt]
 |a::l,h,hn=>by
  have h1:=List.pairwise_cons.1 h;unfold ins;split
  ·rename_i hk;refine List.pairwise_cons.2 ⟨fun x hx=> ?_,h⟩;rcases List.mem_cons.1 hx with rfl|hx
   ·exact hk
   ·exact klt_trans hk (h1.1 x hx)
  ·rename_i hk;refine List.pairwise_cons.2 ⟨fun x hx=> ?_,ins_srt h1.2 fun y hy=>hn y (List.mem_cons_of_mem _ hy)⟩;rcases List.mem_cons.1 ((ins_perm b l).subset hx)with rfl|hx
   ·exact klt_total (fun e=>hn a (by simp) e.symm) (by simpa using hk)
   ·exact h1.1 x hx
def putB (L:List Bor) (b:Bor):List Bor:=ins b (without L b.1)
theorem put_srt {L:List Bor} (h:Srt L) (b:Bor):Srt (putB L b):=ins_srt (without_srt h b.1) fun _ ha=>(without_mem.1 ha).2
theorem put_perm (L:List Bor) (b:Bor):(putB L b).Perm (b::without L b.1):=ins_perm _ _
theorem put_mem {L:List Bor} {a b:Bor}:a∈putB L b↔a=b∨(a∈L∧a.1≠b.1):=by
 rw[(put_perm L b).mem_iff,List.mem_cons,without_mem]
def getB (L:List Bor) (k:Int×Int):Option Bor:=L.find? fun b=>decide (b.1=k)
theorem getB_some {L:List Bor} {k:Int×Int} {b:Bor} (h:getB L k=some b):b∈L∧b.1=k:=by
 unfold getB at h;exact⟨List.mem_of_find?_eq_some h,by simpa using List.find?_some h⟩
theorem getB_none {L:List Bor} {k:Int×Int} (h:getB L k=none):∀b∈L,b.1≠k:=by
 unfold getB at h;rw[List.find?_eq_none]at h;simpa using h
theorem getB_of {L:List Bor} (h:(L.map (·.1)).Nodup) {b:Bor} (hb:b∈L):getB L b.1=some b:=by
 cases hg:getB L b.1 with
 |none=>exact absurd rfl (getB_none hg b hb)
 |some a=>
  obtain⟨ha,he⟩:=getB_some hg;congr 1;rw[List.Nodup,List.pairwise_map]at h;by_cases hab:a=b
  ·exact hab
  ·exfalso;obtain⟨i,hi,rfl⟩:=List.mem_iff_getElem.1 ha;obtain⟨j,hj,rfl⟩:=List.mem_iff_getElem.1 hb;rw[List.pairwise_iff_getElem]at h;rcases Nat.lt_trichotomy i j with hij|hij|hij
   ·exact h i j hi hj hij he
   ·subst hij;exact hab rfl
   ·exact h j i hj hi hij he.symm
theorem without_none {L:List Bor} {k:Int×Int} (h:getB L k=none):without L k=L:=by
 unfold without;rw[List.filter_eq_self];intro a ha;simpa using getB_none h a ha
def ofO (L:List Bor) (o:Int):List Bor:=L.filter fun b=>decide (b.1.1=o)
def heldH (L:List Bor) (h:Int):List Bor:=L.filter fun b=>decide (b.1.2=h)
structure LInv (N:Int) (L:List Bor):Prop where
 srt:Srt L
 one:∀b∈L,1≤b.2.2∧b.2.2≤N
 mode:∀b∈L,b.2.1=1∨b.2.1=2
 same:∀a∈L,∀b∈L,a.1.1=b.1.1→a.2.1=b.2.1
 excl:∀a∈L,a.2.1=2→a.2.2=1∧∀b∈L,b.1.1=a.1.1→b=a
theorem LInv.nil (N:Int):LInv N []:=⟨List.Pairwise.nil,by simp,by simp,by simp,by simp⟩
theorem LInv.up {N M:Int} {L:List Bor} (h:LInv N L) (hNM:N≤M):LInv M L:=⟨h.srt,fun b hb=>by have:=h.one b hb;omega,h.mode,h.same,h.excl⟩
theorem LInv.filter {N:Int} {L:List Bor} (h:LInv N L) (p:Bor→Bool):LInv N (L.filter p):=
 ⟨h.srt.filter p,fun b hb=>h.one b (List.mem_filter.1 hb).1,fun b hb=>h.mode b (List.mem_filter.1 hb).1,fun a ha b hb=>h.same a (List.mem_filter.1 ha).1 b (List.mem_filter.1 hb).1,
  fun a ha he=>⟨(h.excl a (List.mem_filter.1 ha).1 he).1,fun b hb e=>(h.excl a (List.mem_filter.1 ha).1 he).2 b (List.mem_filter.1 hb).1 e⟩⟩
def modeO (L:List Bor) (o:Int):Int:=match ofO L o with
 | []=>0
 |b::_=>b.2.1
def cntOf (L:List Bor) (k:Int×Int):Int:=match getB L k with
 |some b=>b.2.2
 |none=>0
def lendE (L:List Bor) (o m:Int):Int:=if m≠1∧m≠2 then 1 else if modeO L o=2∨(modeO L o≠0∧m=2)then 14 else 0
def lendL (L:List Bor) (o h m:Int):List Bor:=if lendE L o m=0 then putB L ((o,h),(m,cntOf L (o,h)+1))else L
def relE (L:List Bor) (k:Int×Int):Int:=match getB L k with
 |some _=>0
 |none=>13
def relL (L:List Bor) (k:Int×Int):List Bor:=match getB L k with
 |some b=>if b.2.2=1 then without L k else putB L (k,(b.2.1,b.2.2-1))
 |none=>L
theorem ofO_mem {L:List Bor} {o:Int} {b:Bor}:b∈ofO L o↔b∈L∧b.1.1=o:=by simp[ofO]
theorem modeO_of {N:Int} {L:List Bor} (h:LInv N L) {b:Bor} (hb:b∈L) {o:Int} (ho:b.1.1=o):modeO L o=b.2.1:=by
 unfold modeO;have hm:b∈ofO L o:=ofO_mem.2 ⟨hb,ho⟩
 cases hf:ofO L o with
 |nil=>rw[hf]at hm;cases hm
 |cons a l=>
  have ha:=ofO_mem.1 (show a∈ofO L o by rw[hf];simp);exact h.same a ha.1 b hb (by rw[ha.2,ho])
theorem modeO_zero {N:Int} {L:List Bor} (h:LInv N L) (o:Int):modeO L o=0↔ofO L o=[]:=by
 constructor
 ·intro h0
  cases hf:ofO L o with
  |nil=>rfl
  |cons a l=>
   have ha:=ofO_mem.1 (show a∈ofO L o by rw[hf];simp);have:=modeO_of h ha.1 ha.2;have:=h.mode a ha.1;omega
 ·intro h0;unfold modeO;rw[h0]
theorem modeO_range {N:Int} {L:List Bor} (h:LInv N L) (o:Int):modeO L o=0∨modeO L o=1∨modeO L o=2:=by
 cases hf:ofO L o with
 |nil=>left;unfold modeO;rw[hf]
 |cons a l=>
  have ha:=ofO_mem.1 (show a∈ofO L o by rw[hf];simp);have:=modeO_of h ha.1 ha.2;have:=h.mode a ha.1;omega
theorem cntOf_range {N:Int} {L:List Bor} (h:LInv N L) (h0:0≤N) (k:Int×Int):0≤cntOf L k∧cntOf L k≤N:=by
 unfold cntOf
 cases hg:getB L k with
 |none=>simp;exact h0
 |some b=>have:=h.one b (getB_some hg).1;simp only;omega
theorem put_inv {N M:Int} {L:List Bor} (h:LInv N L) (hNM:N≤M) {b:Bor} (h1:1≤b.2.2∧b.2.2≤M) (hm:b.2.1=1∨b.2.1=2) (hs:∀a∈L,a.1.1=b.1.1→a.1≠b.1→a.2.1=1∧b.2.1=1) (he:b.2.1=2→b.2.2=1):LInv M (putB L b):=by
 refine⟨put_srt h.srt b,fun a ha=> ?_,fun a ha=> ?_,fun a ha c hc e=> ?_,fun a ha e=> ?_⟩
 ·rcases put_mem.1 ha with rfl|⟨ha',_⟩
  ·exact h1
  ·have:=h.one a ha';omega
 ·rcases put_mem.1 ha with rfl|⟨ha',_⟩
  ·exact hm
  ·exact h.mode a ha'
 ·rcases put_mem.1 ha with rfl|⟨ha',na⟩<;>rcases put_mem.1 hc with rfl|⟨hc',nc⟩
  ·rfl
  ·have:=hs c hc' e.symm nc;omega
  ·have:=hs a ha' e na;omega
  ·exact h.same a ha' c hc' e
 ·rcases put_mem.1 ha with rfl|⟨ha',na⟩
  ·refine⟨he e,fun c hc e2=> ?_⟩;rcases put_mem.1 hc with rfl|⟨hc',nc⟩
   ·rfl
   ·have:=hs c hc' e2 nc;omega
  ·refine⟨(h.excl a ha' e).1,fun c hc e2=> ?_⟩;rcases put_mem.1 hc with rfl|⟨hc',nc⟩
   ·have:=hs a ha' e2.symm na;omega
   ·exact(h.excl a ha' e).2 c hc' e2
theorem lend_inv {N:Int} {L:List Bor} (h:LInv N L) (h0:0≤N) (o k m:Int):LInv (N+1) (lendL L o k m):=by
 unfold lendL;split
 ·rename_i he;unfold lendE at he;split at he
  ·cases he
  ·rename_i hm;split at he
   ·cases he
   ·rename_i hn;have hc:=cntOf_range h h0 (o,k);have hz:=modeO_zero h o;refine put_inv h (by omega) (by show 1≤cntOf L (o,k)+1∧cntOf L (o,k)+1≤N+1;omega) (by show m=1∨m=2;omega) (fun a ha e1 e2=> ?_) (fun e=> ?_)
    ·have hmo:=modeO_of h ha (o:=o) e1;have:=h.mode a ha;show a.2.1=1∧m=1;omega
    ·have e:m=2:=e;have hof:=hz.1 (by omega);show cntOf L (o,k)+1=1;unfold cntOf
     cases hg:getB L (o,k)with
     |none=>rfl
     |some b=>
      obtain⟨hb,hk⟩:=getB_some hg;have:b∈ofO L o:=ofO_mem.2 ⟨hb,by rw[hk]⟩;rw[hof]at this;cases this
 ·exact h.up (by omega)
theorem rel_inv {N:Int} {L:List Bor} (h:LInv N L) (k:Int×Int):LInv N (relL L k):=by
 unfold relL
 cases hg:getB L k with
 |none=>exact h
 |some b=>
  obtain⟨hb,hk⟩:=getB_some hg;have h1:=h.one b hb;simp only;split
  ·exact h.filter _
  ·rename_i hne;have hb2:b.2.1=1:=by
    rcases h.mode b hb with h'|h'
    ·exact h'
    ·exact absurd (h.excl b hb h').1 hne
   refine put_inv h (Int.le_refl _) (by show 1≤b.2.2-1∧b.2.2-1≤N;omega) (.inl hb2) (fun a ha e1 e2=> ?_) (fun e=> ?_)
   ·refine⟨?_,hb2⟩;rw[←hb2];exact h.same a ha b hb (by rw[e1,hk])
   ·have e:b.2.1=2:=e;omega
theorem getB_perm {L:List Bor} (hn:(L.map (·.1)).Nodup) {k:Int×Int} {b:Bor} (hg:getB L k=some b):L.Perm (b::without L k):=by
 obtain⟨hb,hk⟩:=getB_some hg;obtain⟨A,B,rfl⟩:=List.append_of_mem hb;have hno:∀a∈A++B,a.1≠k:=by
  rw[List.map_append,List.map_cons]at hn;have hn:=(List.perm_middle.nodup_iff).1 hn;rw[List.nodup_cons]at hn;intro a ha e;apply hn.1;rw[←List.map_append,hk, ←e];exact List.mem_map_of_mem ha
 have e:without (A++b::B) k=A++B:=by
  unfold without;rw[List.filter_append,List.filter_cons,if_neg (by simp[hk]),List.filter_eq_self.2 (fun a ha=>by simpa using hno a (List.mem_append_left _ ha)),List.filter_eq_self.2 (fun a ha=>by simpa using hno a (List.mem_append_right _ ha))]
 rw[e];exact List.perm_middle
theorem ofO_perm {L M:List Bor} (h:L.Perm M) (o:Int):(ofO L o).Perm (ofO M o):=h.filter _
theorem ofO_cons (b:Bor) (L:List Bor) (o:Int):(ofO (b::L) o).length=(if b.1.1=o then 1 else 0)+(ofO L o).length:=by
 unfold ofO;rw[List.filter_cons];by_cases h:b.1.1=o
 ·simp[h];omega
 ·simp[h]
theorem lend_mode {N:Int} {L:List Bor} (h:LInv N L) {o k m:Int} {b:Bor} (hg:getB L (o,k)=some b) (he:lendE L o m=0):b=((o,k),(m,b.2.2)):=by
 obtain⟨hb,hk⟩:=getB_some hg;have hm:=modeO_of h hb (o:=o) (by rw[hk]);have hr:=h.mode b hb;have:b.2.1=m:=by
  unfold lendE at he;split at he
  ·cases he
  ·split at he
   ·cases he
   ·omega
 obtain⟨bk,bm,bc⟩:=b;simp only at*;rw[hk,this]
theorem cntOf_some {L:List Bor} {k:Int×Int} {b:Bor} (hg:getB L k=some b):cntOf L k=b.2.2:=by unfold cntOf;rw[hg]
theorem cntOf_none {L:List Bor} {k:Int×Int} (hg:getB L k=none):cntOf L k=0:=by unfold cntOf;rw[hg]
theorem ofO_without {L:List Bor} (hn:(L.map (·.1)).Nodup) {k:Int×Int} {b:Bor} (hg:getB L k=some b) (o:Int):(ofO L o).length=(if k.1=o then 1 else 0)+(ofO (without L k) o).length:=by
 rw[(ofO_perm (getB_perm hn hg) o).length_eq,ofO_cons,(getB_some hg).2]
theorem ofO_put (L:List Bor) (b:Bor) (o:Int):(ofO (putB L b) o).length=(if b.1.1=o then 1 else 0)+(ofO (without L b.1) o).length:=by
 rw[(ofO_perm (put_perm L b) o).length_eq,ofO_cons]
theorem ofO_put_old {L:List Bor} (hn:(L.map (·.1)).Nodup) {x b:Bor} (hg:getB L b.1=some x) (o:Int):(ofO (putB L b) o).length=(ofO L o).length:=by
 rw[ofO_put,ofO_without hn hg]
theorem ofO_put_new {L:List Bor} {b:Bor} (hg:getB L b.1=none) (o:Int):(ofO (putB L b) o).length=(if b.1.1=o then 1 else 0)+(ofO L o).length:=by
 rw[ofO_put,without_none hg]
theorem put_len (L:List Bor) (b:Bor):(putB L b).length≤L.length+1:=by
 rw[(put_perm L b).length_eq,List.length_cons];have:(without L b.1).length≤L.length:=List.length_filter_le _ _;omega
theorem lend_len (L:List Bor) (o k m:Int):(lendL L o k m).length≤L.length+1:=by
 unfold lendL;split
 ·exact put_len _ _
 ·omega
theorem rel_len {L:List Bor} (hn:(L.map (·.1)).Nodup) (k:Int×Int):(relL L k).length≤L.length:=by
 unfold relL
 cases hg:getB L k with
 |none=>exact Nat.le_refl _
 |some b=>
  simp only;split
  ·exact List.length_filter_le _ _
  ·rw[(put_perm L _).length_eq,(getB_perm hn hg).length_eq];exact Nat.le_refl _
end Go.Proofs.YteidpgdfocjdbaaGreat.Bw
