/- Joined contracts. No conditions. -/
import Derived.Laws.IdiomCopy
import Derived.Lib.SliceRun
import Derived.Test.YteidpgdfocjdbaaGreatCS
import Derived.Test.YteidpgdfocjdbaaGreatC05
import Derived.Test.YteidpgdfocjdbaaGreatC13
import Derived.Test.YteidpgdfocjdbaaGreatC15
import Derived.Test.YteidpgdfocjdbaaGreatC17
import Derived.Test.YteidpgdfocjdbaaGreatC19
import Derived.Test.YteidpgdfocjdbaaGreatC26
import Derived.Test.YteidpgdfocjdbaaGreatC27
import Derived.Test.YteidpgdfocjdbaaGreatC29
set_option maxHeartbeats 4000000
set_option maxRecDepth 20000
namespace Go.Proofs.YteidpgdfocjdbaaGreat
open Go Go.RowKit Go.Stg
open Ty (FieldsAt fields_get fcells fcells_length fields_cells fcells_oneCell row_fields)
def Less (fr fr':List Ext) (x:Ext):Prop:=VS fr'∧(∀y,inS y fr'↔inS y fr∧¬inE y x)∧fr'.length≤fr.length+1
theorem lenAt_snoc {used:List Ext} {x:Ext} (h:lenAt used x.1=none) (off:Int):lenAt (used++[x]) off=if off=x.1 then some x.2 else lenAt used off:=by
 unfold lenAt at*;rw[List.find?_append];by_cases e:off=x.1
 ·subst e;rw[if_pos rfl,Option.map_eq_none_iff.1 h,Option.none_or];simp
 ·rw[if_neg e]
  cases used.find? fun e=>decide (e.1=off)with
  |some a=>rfl
  |none=>simp[Ne.symm e]
theorem TakenAt.put {w:World} {bm:Nat} {used:List Ext} (h:TakenAt w bm used) {x:Ext} (hx:lenAt used x.1=none):∃w',(Instr.mapUpdate 137 (.map (some bm)) (.int .i64 x.1) (.int .i64 x.2)).run Tryz.prog w=.ok () w'∧TakenAt w' bm (used++[x])∧Mod [bm] w w':=by
 obtain⟨es,c,h1,h2,h3⟩:=h;obtain⟨k1,k2⟩:=mput_spec x.1 (.int .i64 x.2) c es h2;refine⟨_,run_update_int (P:=Tryz.prog) Tryz.underlying137 Tryz.underlying3 h1 h2 x.1 (.int .i64 x.2),⟨_,_,at_setMap h1,k1,fun off=> ?_⟩,(Mod.refl [bm] w).setMap (.inl (by simp)) _⟩;rw[k2,lenAt_snoc hx];by_cases e:off=x.1
 ·simp[e]
 ·rw[if_neg e,if_neg e];exact h3 off
theorem find_spec {fr:List Ext} (hs:VS fr) {n:Int} (hn:findE fr n=0):∃A C a,fr=A++a::C∧proper (findX fr n)∧a.1≤(findX fr n).1∧(findX fr n).1+(findX fr n).2≤a.1+a.2∧(findX fr n).1=a.1:=by
 have hx:findX fr n=((bestV (bestP (roundN n) fr)).1,roundN n):=by unfold findX;rw[if_pos hn]
 unfold findE at hn;by_cases h1:roundE n≠0
 ·rw[if_pos h1]at hn;exact absurd hn h1
 ·rw[if_neg h1]at hn
  cases hb:bestP (roundN n) fr with
  |none=>rw[hb]at hn;simp at hn
  |some b=>
   obtain⟨k1,k2⟩:=best_some hb;obtain⟨A,C,e⟩:=List.append_of_mem k1;rw[hb]at hx;rw[hx];have hp:=hs.1 b k1;unfold proper at hp;have hr:roundE n=0:=Classical.byContradiction fun h=>h1 h
   have hr2:16≤roundN n:=by
    unfold roundE at hr;split at hr
    ·simp at hr
    ·split at hr
     ·simp at hr
     ·exact(round_spec (by omega) (by omega)).2.2.1
   have e1:bestV (some b)=b:=rfl;rw[e1];refine⟨A,C,b,e,?_,by simp,?_,rfl⟩
   ·unfold proper;simp only;omega
   ·simp only;omega
def AlPost (ab:Nat) (fr used:List Ext) (x:Ext) (w:World) (f:List Nat) (e:Ending) (w':World):Prop:=
 ∃fr',Less fr fr' x∧Takes (alC ab fr' (used++[x])) (.tuple #[.agg #[.int .i64 x.1,.int .i64 x.2],.int .i64 0]) w f e w'
theorem alalloc_no {ab:Nat} {fr used:List Ext} {w:World} {f:List Nat} (h:(alC ab fr used).on w f) (hs:VS fr) (n:Int) (hn:findE fr n≠0):
  Calls Tryz.prog 84 #[.pointer (some ⟨ab,0,none⟩),.int .i64 n] w fun e w'=>e=.returned (.tuple #[.agg #[.int .i64 0,.int .i64 0],.int .i64 (findE fr n)])∧Mod [] w w':=by
 obtain⟨bm,fv,hH⟩:=h;have hS:=Scene.start hH;have hf:=Lib.hid fun w' (hm:Mod [] w w')=>afind_ok (hm.at (hS.block 0 rfl) (by simp)) ((row_fields (hS.row 1 rfl) rfl).mod hm) hs n
 obtain⟨E,hE⟩:∃E,findE fr n=E:=⟨_,rfl⟩;obtain⟨X,hX⟩:∃X,findX fr n=X:=⟨_,rfl⟩;rw[hE]at hn;simp only[hE,hX]at hf;rw[hE];have hne:(E != 0)=true:=by simpa using hn
 clear hH hS hE hX hn;have h0:=at_alloc w (.cells #[.int .i64 0,.int .i64 0] 56);have hm0:=(Mod.refl [] w).alloc (.cells #[.int .i64 0,.int .i64 0] 56);have h0H:=Lib.hid h0;have hm0H:=Lib.hid hm0;clear h0 hm0;go_enter Tryz.func84,Tryz.ntmps84;go_wp2_with fail;refine(hf.out _ hm0H.out).mono ?_;rintro e w1 ⟨rfl,hm1⟩;have h1:=hm1.at h0H.out (by simp);have hc1:=cells_of h1;have hf1:=frozen_of h1;have hmH:=Lib.hid (hm0H.out.nil_then hm1);have h1H:=Lib.hid h1;have hlt:=hm1.gt;clear h1 hm1 hf;go_wp2_with fail;have hq:=at_alloc_old (o:=.cells #[.int .i64 X.1,.int .i64 X.2] 56) (at_setCell (o:=1) (v:=.int .i64 0) (at_setCell (o:=0) (v:=.int .i64 0) h1H.out));refine bodyPost_ret (ret_cell_tmp Tryz.results84 rfl rfl hq Tryz.underlying56 rfl (by kernel_rfl)) rfl ⟨rfl,?_⟩;exact((hmH.out.setCell (p:=⟨w.heap.size,0,none⟩) (.inr (Nat.le_refl _)) (.int .i64 0)).setCell (p:=⟨w.heap.size,1,none⟩) (.inr (Nat.le_refl _)) (.int .i64 0)).alloc _
theorem alalloc_yes {ab:Nat} {fr used:List Ext} {w:World} {f:List Nat} (h:(alC ab fr used).on w f) (hs:VS fr) (hl:fr.length≤900000) (n:Int) (hn:findE fr n=0) (hno:lenAt used (findX fr n).1=none):
  Calls Tryz.prog 84 #[.pointer (some ⟨ab,0,none⟩),.int .i64 n] w (AlPost ab fr used (findX fr n) w f):=by
 obtain⟨bm,fv,hH⟩:=h;have hS:=Scene.start hH;have hf:=Lib.hid fun w' (hm:Mod [] w w')=>afind_ok (hm.at (hS.block 0 rfl) (by simp)) ((row_fields (hS.row 1 rfl) rfl).mod hm) hs n
 obtain⟨A,C,a,hfr,hx,hx1,hx2,hxa⟩:=find_spec hs hn;generalize hX:findX fr n=X at*;simp only[hn]at hf;subst hfr;obtain⟨xo,xl⟩:=X;have hXp:=hx;unfold proper at hXp;simp only at hx1 hx2 hno hXp;have hlaw:=Lib.hid (remove_law hs hx hx1 hx2);have hrem:=Lib.hid fun(w':World) (b0:Nat) (hr:w'.ownsRow b0 56 2 fv (A++a::C).length (fcells (A++a::C)))=>remove_ok hr hs (by omega) hx hx1 hx2
 have h0:=at_alloc w (.cells #[.int .i64 0,.int .i64 0] 56);have hS0:=Lib.hid (hS.alloc (.cells #[.int .i64 0,.int .i64 0] 56));have hm0H:=Lib.hid ((Mod.refl [] w).alloc (.cells #[.int .i64 0,.int .i64 0] 56));have hnoH:=Lib.hid hno;clear h0 hH hS hn hX hs hx hx1 hx2 hxa hno;go_enter Tryz.func84,Tryz.ntmps84;go_wp2_with fail;refine(hf.out _ hm0H.out).mono ?_;rintro e w1 ⟨rfl,hm1⟩;have hS1:=Lib.hid ((hS0.out.then hm1).alloc (.cells #[.int .i64 xo,.int .i64 xl] 56));have hlt:=hm1.gt;clear hm1 hf hS0;go_wp2_with fail;have hS2:=Lib.hid ((hS1.out.out 3 rfl).out 3 rfl);have hbw:w1.heap.size≠w.heap.size:=by omega
 generalize w1.alloc (.cells #[.int .i64 xo,.int .i64 xl] 56)=W at*;generalize w1.heap.size=bx at*;have k1:=GW.cells (S:=[]) (hS2.out.block 0 rfl) (by simp);have k2:=GW.cells (S:=[]) (hS2.out.block 2 rfl) (by simp);clear hS1;refine wp_region_pure (by kernel_rfl) (by kernel_rfl) ?_;refine stage_quiet 6 (by kernel_rfl) ?_;simp only[tA,tB,tC,tD];(repeat go_big_quiet_step (fail));refine wpQuiet_nil ?_;refine stage_call_any 120 _ (fun v=>∃a m c,v=.tuple #[.slice a m c,.int .i64 0]) (fun v w'=>∃u,v=.tuple #[u,.int .i64 0]∧Mod [] W w'∧w'.ownsRow W.heap.size 56 2 u (A++(remL a (xo,xl)++remR a (xo,xl))++C).length (fcells (A++(remL a (xo,xl)++remR a (xo,xl))++C))) rfl Tryz.call120 rfl rfl ⟨_,none,0,0,rfl⟩ (fun w' hm=>(hrem.out w' _ (row_mod (hS2.out.row 1 rfl) hm (by simp))).mono fun r w'' ⟨u,g1,g2,g3⟩=>by
  obtain⟨ua,ul,uc,rfl⟩:=row_form g2;exact⟨_,g1,⟨ua,ul,uc,rfl⟩,_,rfl,hm.nil_then g3,row_base g2 hm.size⟩) (fun v w' ⟨_,_,h,_⟩=>InGW.of h) (fun v hv=> ?_)
 obtain⟨ua,ul,uc,rfl⟩:=hv;simp only[Act.put,sA,sB,sC];refine stage_quiet 5 (by kernel_rfl) ?_;simp only[tA,tB,tC,tD];(repeat go_big_quiet_step (fail));refine wpQuiet_nil ?_;refine stage_store (p:=⟨ab,0,none⟩) (u:=.slice ua ul uc) (fun w'=>w'.setCell ⟨ab,0,none⟩ (.slice ua ul uc)) rfl rfl (by kernel_rfl) rfl rfl rfl (fun w' hw=> ?_) (fun w' hw=> ?_)
 ·obtain⟨_,_,hm,_⟩:=hw;have hb6:=hm.at (hS2.out.block 0 rfl) (by simp);have c1:=cells_of hb6;have f1:=frozen_of hb6;clear k1 k2;go_simp
 obtain⟨u',hu',hm5,hr5⟩:=hw;obtain rfl:u'=.slice ua ul uc:=by simpa using hu'.symm
 have hS3:=Lib.hid ((grown_part (o:=0) hS2.out (hm5.mono (by simp)) (row_base hr5 (Nat.zero_le _)) (fun x hx=>.inr (hr5.lt x hx).1)).out 4 rfl);clear k1 k2 hS2 hm5 hr5 hu' hrem;generalize w'.setCell ⟨ab,0,none⟩ (.slice ua ul uc)=W5 at*;obtain⟨f5,⟨hT5,rfl⟩,hput⟩:=hS3.out.part 0 rfl;obtain⟨es,cc,hb5,hk5,hl5⟩:=hT5;have hputH:=Lib.hid hput;have hl5H:=Lib.hid hl5;have hb5H:=Lib.hid hb5;have hne5:bm≠ab∧bm≠bx:=by
  obtain⟨fa,ga,⟨_,rfl⟩,⟨_,rfl⟩,ha⟩:=hS3.out.two 0 0 rfl rfl;obtain⟨fb,gb,⟨_,rfl⟩,⟨_,rfl⟩,hb⟩:=hS3.out.two 0 2 rfl rfl;exact⟨fun e=>ha bm (by simp) (by simp[e]),fun e=>hb bm (by simp) (by simp[e])⟩
 have k1:=GW.cells (S:=[bm]) (hS3.out.block 1 rfl) (by simp;omega);have k2:=GW.cells (S:=[bm]) (hS3.out.block 3 rfl) (by simp;omega);clear hb5 hl5 hput;go_wp2_with fail;refine wp_region_stage (fun w'=>∃x:GW [bm] W5,w'=x.1) (fun w'=>Mod [] W5 w') (by kernel_rfl) (by kernel_rfl) (fun _ h=>InGW.of (h.mono (by simp))) (Mod.refl _ _).drew ?_;refine stage_quiet 8 (by kernel_rfl) ?_;simp only[tA,tB,tC,tD];(repeat go_big_quiet_step (fail));refine wpQuiet_nil ?_;refine stage_mapUpdate bm es cc xo (.int .i64 xl) (fun w'=>Mod [bm] W5 w'∧w'.heap[bm]? =some (.map (mput xo (.int .i64 xl) cc es).1 (mput xo (.int .i64 xl) cc es).2)) rfl Tryz.underlying137 Tryz.underlying3 rfl rfl rfl rfl hk5 (fun w' h=>h.at hb5H.out (by simp)) (fun w' h=>⟨(h.mono (by simp)).setMap (.inl (by simp)) _,at_setMap (h.at hb5H.out (by simp))⟩) (fun w' h=>InGW.of h.1) ?_;simp only[Act.put];refine stage_nil fun w6 hw6=> ?_
 obtain⟨hm6,hb6⟩:=hw6;obtain⟨k5,k6⟩:=mput_spec xo (.int .i64 xl) cc es hk5;have hS6:=Lib.hid (hputH.out w6 [bm] (takenC bm (used++[(xo,xl)])) ⟨⟨_,_,hb6,k5,fun off=>by
  rw[k6,lenAt_snoc hnoH.out];by_cases e:off=xo
  ·simp[e]
  ·rw[if_neg e,if_neg e];exact hl5H.out off⟩,rfl⟩ hm6 (fun x hx=>.inl hx))
 have hc3:=cells_of (hS6.out.block 3 rfl);have hc4:=cells_of (hS6.out.block 4 rfl);have hf4:=frozen_of (hS6.out.block 4 rfl);clear k1 k2 k5 k6 hm6 hb6 hputH hl5H hb5H hk5 hS3;go_wp2_with fail;have hS7:=((hS6.out.blockSet 4 rfl 0 (.int .i64 xo)).blockSet 4 rfl 1 (.int .i64 xl));refine bodyPost_ret (ret_cell_tmp Tryz.results84 rfl rfl (hS7.block 4 rfl) Tryz.underlying56 rfl (by kernel_rfl)) rfl ?_;obtain⟨f',q1,q2,q3⟩:=(((hS7.erase 4).erase 3).out 2 rfl |>.out 2 rfl).done;refine⟨A++(remL a (xo,xl)++remR a (xo,xl))++C,⟨hlaw.out.1,hlaw.out.2,?_⟩,f',rfl,⟨bm,_,q1⟩,q2,q3⟩;have e1:(remL a (xo,xl)).length≤1:=by unfold remL;split<;>simp
 have e2:(remR a (xo,xl)).length≤1:=by unfold remR;split<;>simp
 simp only[List.length_append,List.length_cons];omega
theorem lenAt_mem {size:Int} {used:List Ext} (hu:UsedOk size used) {o l:Int} (h:(o,l)∈used):lenAt used o=some l:=by
 unfold lenAt
 cases hf:used.find? fun e=>decide (e.1=o)with
 |none=>
  rw[List.find?_eq_none]at hf;have:=hf _ h;simp at this
 |some e=>
  obtain⟨e1,e2⟩:=e;have he:=List.mem_of_find?_eq_some hf;have h1:e1=o:=by simpa using List.find?_some hf
  subst h1;by_cases hne:e2=l
  ·simp[hne]
  ·exfalso;have p1:=hu.len (e:=(e1,e2)) he;have p2:=hu.len (e:=(e1,l)) h;obtain⟨i,hi,e3⟩:=List.getElem_of_mem he;obtain⟨j,hj,e4⟩:=List.getElem_of_mem h;have hd:=List.pairwise_iff_getElem.1 hu.dis;have hm:∀x y:Int,0<x→0<y→meets (e1,x) (e1,y):=fun x y hx hy=>by unfold meets;simp only;omega
   rcases Nat.lt_trichotomy i j with hij|hij|hij
   ·exact hd i j hi hj hij (by rw[e3,e4];exact hm _ _ p1 p2)
   ·subst hij;rw[e3]at e4;simp at e4;exact hne e4
   ·exact hd j i hj hi hij (by rw[e3,e4];exact hm _ _ p2 p1)
theorem has_mem {size:Int} {used:List Ext} (hu:UsedOk size used) {x:Ext} (h:x∈used):hasB used x=true:=by
 unfold hasB;rw[lenAt_mem hu (o:=x.1) (l:=x.2) h];simp
theorem lenAt_perm {size:Int} {used used':List Ext} (hu:UsedOk size used) (p:used.Perm used') (off:Int):lenAt used off=lenAt used' off:=by
 cases h:lenAt used' off with
 |none=>
  cases h':lenAt used off with
  |none=>rfl
  |some l=>
   unfold lenAt at h';rw[Option.map_eq_some_iff]at h';obtain⟨e,he,hl⟩:=h';have h1:=List.mem_of_find?_eq_some he;have h2:e.1=off:=by simpa using List.find?_some he
   have:=lenAt_mem (hu.perm p) (o:=off) (l:=l) (by rw[←h2, ←hl];exact p.mem_iff.1 h1);rw[h]at this;cases this
 |some l=>
  unfold lenAt at h;rw[Option.map_eq_some_iff]at h;obtain⟨e,he,hl⟩:=h;have h1:=List.mem_of_find?_eq_some he;have h2:e.1=off:=by simpa using List.find?_some he
  exact lenAt_mem hu (o:=off) (l:=l) (by rw[←h2, ←hl];exact p.mem_iff.2 h1)
theorem splice_bvals {B b:List Int} {o:Nat} (h:o+b.length≤B.length):splice (bvals B) o (bvals b)=bvals (overlay B o b):=by
 apply List.ext_getElem?;intro i;rw[splice_at];unfold overlay bvals;simp only[List.length_map,List.getElem?_map];by_cases c:o≤i∧i<o+b.length∧i<B.length
 ·rw[if_pos c,List.append_assoc,List.getElem?_append_right (by simp;omega),List.getElem?_append_left (by simp;omega)];simp[show min o B.length=o by omega]
 ·rw[if_neg c];by_cases c1:i<o
  ·rw[List.append_assoc,List.getElem?_append_left (by simp;omega),List.getElem?_take,if_pos c1]
  ·by_cases c2:i<B.length
   ·rw[List.getElem?_append_right (by simp;omega),List.getElem?_drop];congr 2;simp;omega
   ·rw[List.getElem?_eq_none (by omega),List.getElem?_eq_none (by simp;omega)]
theorem scene_bytes {F:List Nat} {W w:World} {cs:List Comp} (i:Nat) {g cap n:Nat} {B:List Int} (h:Scene F W cs w) (hi:cs[i]? =some (rowC (.slice (some ⟨g,0,none⟩) n cap) n 5 1 (bvals B))) {o:Nat} {b:List Int} (ho:o+b.length≤B.length):
  Scene F W (cs.set i (rowC (.slice (some ⟨g,0,none⟩) n cap) n 5 1 (bvals (overlay B o b)))) (w.setCells g o (bvals b)):=by
 obtain⟨fp,⟨h1,hf⟩,hk⟩:=h.part i hi;subst hf;refine hk _ _ _ ⟨?_,rfl⟩ (Mod.setCells (.inl (by simp[Value.ownBlock])) _ _ _ (Mod.refl _ _)) (fun x hx=>.inl hx);rw[←splice_bvals ho];exact row_setCells _ _ _ _ h1
def arP (ar ab:Nat) (bv:Value) (fr used:List Ext) (B:List Int):List Comp:=
 [blockC ar (.cells #[.pointer (some ⟨ab,0,none⟩),bv] 147 (0,0)),alC ab fr used,rowC bv B.length 5 1 (bvals B)]
structure ArOk (size:Int) (used:List Ext) (B:List Int):Prop where
 s1:size≤1048576
 u:UsedOk size used
 ul:used.length≤10000
 len:(B.length:Int)=size
 byte:∀b∈B,0≤b∧b≤255
def arOn (ar:Nat) (size:Int) (used:List Ext) (B:List Int) (w:World) (f:List Nat):Prop:=ArOk size used B∧∃ab bv,Hold (arP ar ab bv (frOf size used) used B) w f
def arC (ar:Nat) (size:Int) (used:List Ext) (B:List Int):Comp:=
 ⟨arOn ar size used B,fun⟨h,a,b,k⟩ hm hT=>⟨h,a,b,k.keep hm hT⟩,fun⟨_,_,_,k⟩=>k.lt⟩
theorem frOf_perm {size:Int} {used used':List Ext} (hz:size≤1048576) (hu:UsedOk size used) (p:used.Perm used'):frOf size used'=frOf size used:=frOf_eq ((hu.free hz).perm p)
theorem arC.perm {ar:Nat} {size:Int} {used used':List Ext} {B:List Int} {w:World} {f:List Nat} (h:(arC ar size used B).on w f) (p:used.Perm used'):(arC ar size used' B).on w f:=by
 obtain⟨hk,ab,bv,hH⟩:=h;refine⟨⟨hk.s1,hk.u.perm p,by rw[←p.length_eq];exact hk.ul,hk.len,hk.byte⟩,ab,bv,?_⟩;rw[frOf_perm hk.s1 hk.u p];exact Hold.mono1 (cs:=arP ar ab bv (frOf size used) used B) 1 hH rfl fun _ hg=>alC.congr hg (lenAt_perm hk.u p)
theorem parts_ok {w:World} {ar ab:Nat} {bv:Value} (hb:w.heap[ar]? =some (.cells #[.pointer (some ⟨ab,0,none⟩),bv] 147 (0,0))):Calls Tryz.prog 83 #[.pointer (some ⟨ar,0,none⟩)] w fun e w'=>e=.returned (.pointer (some ⟨ab,0,none⟩))∧Mod [] w w':=by
 have hc:=cells_of hb;clear hb;go_enter Tryz.func83,Tryz.ntmps83;go_wp2_with fail;go_ret;exact⟨rfl,Mod.refl _ _⟩
def withinB (off n len:Int):Bool:=decide (0≤off)&&(decide (n≤len)&&decide (off≤len-n))
theorem arwithin_ok (p:Option Addr) (l c:Nat) (hl:l≤100000000) (off n:Int) (hn:0≤n) (w:World):Calls Tryz.prog 131 #[.slice p l c,.int .i64 off,.int .i64 n] w fun e w'=>e=.returned (.bool (withinB off n l))∧Mod [] w w':=by
 have hln:∀ty w,(Builtin.len_ #[57] ty #[.slice p l c]).run Tryz.prog w=.ok (.int .i64 l) w:=fun ty w=>by simp[Builtin.len_,run_underlying Tryz.underlying57,goInt]
 unfold withinB;by_cases h1:0≤off
 ·have e1:decide (off≥0)=true:=by simp[h1]
  by_cases h2:n≤l
  ·have e2:decide (n≤(l:Int))=true:=by simp[h2]
   have e3:decide (0≤off)=true:=by simp[h1]
   rw[e2,e3];go_enter Tryz.func131,Tryz.ntmps131;go_wp2_with fail;go_ret;exact⟨by simp,Mod.refl _ _⟩
  ·have e2:decide (n≤(l:Int))=false:=by simp;omega
   rw[e2];go_enter Tryz.func131,Tryz.ntmps131;go_wp2_with fail;go_ret;exact⟨by simp,Mod.refl _ _⟩
 ·have e1:decide (off≥0)=false:=by simp;omega
  have e3:decide (0≤off)=false:=by simp;omega
  rw[e3];go_enter Tryz.func131,Tryz.ntmps131;go_wp2_with fail;go_ret;exact⟨by simp,Mod.refl _ _⟩
theorem arslice_ok {w:World} {ar ab g n cap:Nat} {fr used:List Ext} {f:List Nat} (hb:w.heap[ar]? =some (.cells #[.pointer (some ⟨ab,0,none⟩),.slice (some ⟨g,0,none⟩) n cap] 147 (0,0))) (ha:(alC ab fr used).on w f)
  (o l:Nat) (hu:hasB used (o,l)=true) (hl0:0<l) (hl:o+l≤n) (hc:n≤cap) (hn:n≤1048576) (_:cap≤maxLen):
  Calls Tryz.prog 130 #[.pointer (some ⟨ar,0,none⟩),.agg #[.int .i64 o,.int .i64 l]] w fun e w'=>e=.returned (.tuple #[.slice (some ⟨g,o,none⟩) l (cap-o),.int .i64 0])∧Mod [] w w':=by
 have hm0:=(Mod.refl [] w).alloc (.cells #[.int .i64 o,.int .i64 l] 56);have hb1:=Lib.hid (hm0.at hb (by simp));have hx1:=Lib.hid (at_alloc w (.cells #[.int .i64 o,.int .i64 l] 56));have hhas:=Lib.hid fun w' (hm:Mod [] w w')=>alhas_ok (Comp.keep (alC ab fr used) ha hm (by simp)) o l
 rw[hu]at hhas;have hm0H:=Lib.hid hm0;clear hm0 hb ha hu;go_enter Tryz.func130,Tryz.ntmps130;go_wp2_with fail;have k1:=GW.cells (S:=[]) hx1.out (by simp);have k2:=GW.cells (S:=[]) hb1.out (by simp);refine wp_region_pure (by kernel_rfl) (by kernel_rfl) ?_;refine stage_quiet 1 (by kernel_rfl) ?_;simp only[tA,tB,tC,tD];(repeat go_big_quiet_step (fail));refine wpQuiet_nil ?_;refine stage_pure 83 #[.pointer (some ⟨ar,0,none⟩)] (.pointer (some ⟨ab,0,none⟩)) rfl Tryz.call83 rfl rfl (fun w' hm=>parts_ok (hm.at hb1.out (by simp))) ?_;simp only[Act.put,sA,sB,sC];refine stage_quiet 1 (by kernel_rfl) ?_;simp only[tA,tB,tC,tD];(repeat go_big_quiet_step (fail));refine wpQuiet_nil ?_;refine stage_pure 149 #[.pointer (some ⟨ab,0,none⟩),.agg #[.int .i64 o,.int .i64 l]] (.bool true) rfl Tryz.call149 rfl rfl (fun w' hm=>hhas.out w' (hm0H.out.nil_then hm)) ?_;simp only[Act.put,sA,sB,sC];refine stage_quiet 1 (by kernel_rfl) ?_;simp only[tA,tB,tC,tD];(repeat go_big_quiet_step (fail));refine wpQuiet_nil ?_;refine stage_nil fun w1 hm1=> ?_
 have hb2:=Lib.hid (hm1.at hb1.out (by simp));have hx2:=Lib.hid (hm1.at hx1.out (by simp));have hmH:=Lib.hid (hm0H.out.nil_then hm1);clear k1 k2 hm1 hb1 hx1 hm0H hhas;go_wp2_with fail;have k1:=GW.cells (S:=[]) hx2.out (by simp);have k2:=GW.cells (S:=[]) hb2.out (by simp);refine wp_region_pure (by kernel_rfl) (by kernel_rfl) ?_;refine stage_quiet 14 (by kernel_rfl) ?_;simp only[tA,tB,tC,tD];(repeat go_big_quiet_step (fail));refine wpQuiet_nil ?_;refine stage_nil fun w2 hm2=> ?_
 rw[show o+l-o=l by omega];go_wp2_with fail;go_ret2;exact⟨rfl,hmH.out.nil_then hm2⟩
theorem bytes_there {w:World} {b g n cap:Nat} {B:List Int} (h:w.ownsRow b 5 1 (.slice (some ⟨g,0,none⟩) n cap) n (bvals B)) {j:Nat} (hj:j<n):(w.cell? ⟨g,j,none⟩).isSome=true∧w.frozen? ⟨g,j,none⟩=false:=by
 refine⟨?_,h.frozenAt j⟩;have hl:=h.1;rw[bvals_len]at hl;rw[h.cellAt j (by omega),List.getElem?_eq_getElem (by rw[bvals_len];omega)];rfl
theorem arC.view {ar:Nat} {size:Int} {used:List Ext} {B:List Int} {w:World} {f:List Nat} (h:(arC ar size used B).on w f) {o l:Nat} (hx:((o:Int),(l:Int))∈used):
  ArOk size used B∧(0<l∧o+l≤B.length∧B.length≤1048576)∧hasB used ((o:Int),(l:Int))=true∧∃ab g cap,(B.length≤cap∧cap≤maxLen)∧Hold (arP ar ab (.slice (some ⟨g,0,none⟩) B.length cap) (frOf size used) used B) w f:=by
 obtain⟨hk,ab,bv,hH⟩:=h;obtain⟨⟨h1,h2,h3⟩,h4⟩:=hk.u.ok _ hx;simp only at h1 h2 h3 h4;have hlen:=hk.len;have hz:=hk.s1;refine⟨hk,⟨by omega,by omega,by omega⟩,has_mem hk.u hx,ab,?_⟩;have hr:=(Scene.start hH).row 2 rfl;rcases row_cases hr with⟨_,h0,_⟩|⟨g,cap,rfl,_,_,k1,k2,_⟩
 ·omega
 ·exact⟨g,cap,⟨k1,k2⟩,hH⟩
open Ty (fcells)
theorem frOf_nil {size:Int} (h1:size≤1048576):frOf size []=gap 0 size:=by
 obtain⟨g1,g2⟩:=gap_law (at':=0) (to:=size) (Int.le_refl 0) h1;exact frOf_eq ⟨g1,fun x=>by rw[g2];simp[inS_nil]⟩
theorem alloc_x {size:Int} {used:List Ext} {B:List Int} (hk:ArOk size used B) {n:Int} (hn:findE (frOf size used) n=0):
  lenAt used (findX (frOf size used) n).1=none∧UsedOk size (used++[findX (frOf size used) n])∧∀fr',Less (frOf size used) fr' (findX (frOf size used) n)→frOf size (used++[findX (frOf size used) n])=fr':=by
 have hf:=hk.u.free hk.s1;obtain⟨A,C,a,h1,h2,h3,h4,h5⟩:=find_spec hf.vs hn;generalize findX (frOf size used) n=x at*;have hmem:a∈frOf size used:=by rw[h1];simp
 have hpa:=(hf.part hmem).2.2;rw[h1]at hf;obtain⟨k1,k2⟩:=hf.alloc hk.u h2 h3 h4;refine⟨?_,k2,fun fr' hl=> ?_⟩
 ·cases hx:lenAt used x.1 with
  |none=>rfl
  |some l=>
   exfalso;unfold lenAt at hx;rw[Option.map_eq_some_iff]at hx;obtain⟨e,he,_⟩:=hx;have e1:=List.mem_of_find?_eq_some he;have e2:e.1=x.1:=by simpa using List.find?_some he
   have e3:=hk.u.len e1;obtain⟨p1,p2,p3⟩:=h2;refine hpa e e1 e3 ?_;unfold meets;omega
 ·refine frOf_eq ⟨hl.1,fun y=> ?_⟩;rw[hl.2.1,h1,hf.mem,inS_append];constructor
  ·rintro⟨⟨q1,q2,q3⟩,q4⟩;exact⟨q1,q2,fun h=>h.elim q3 fun⟨e,he,hy⟩=>q4 (by simp at he;rw[←he];exact hy)⟩
  ·rintro⟨q1,q2,q3⟩;exact⟨⟨q1,q2,fun h=>q3 (.inl h)⟩,fun h=>q3 (.inr ⟨x,by simp,h⟩)⟩
theorem aralloc_no {ar:Nat} {size:Int} {used:List Ext} {B:List Int} {w:World} {f:List Nat} (h:(arC ar size used B).on w f) (n:Int) (hn:findE (frOf size used) n≠0):
  Calls Tryz.prog 42 #[.pointer (some ⟨ar,0,none⟩),.int .i64 n] w fun e w'=>e=.returned (.tuple #[.agg #[.int .i64 0,.int .i64 0],.int .i64 (findE (frOf size used) n)])∧Mod [] w w':=by
 obtain⟨hk,ab,bv,hH⟩:=h;have hf:=hk.u.free hk.s1;have hm0:=Lib.hid ((Mod.refl [] w).alloc (.cells #[.int .i64 0,.int .i64 0] 56));have hx0:=Lib.hid (at_alloc w (.cells #[.int .i64 0,.int .i64 0] 56));have hS:=Scene.start hH;have hpa:=Lib.hid fun w' (hm:Mod [] w w')=>parts_ok (hm.at (hS.block 0 rfl) (by simp))
 have hal:=Lib.hid fun w' (hm:Mod [] w w')=>alalloc_no (Comp.keep (alC ab (frOf size used) used) (hS.part 1 rfl).choose_spec.1 hm (by simp)) hf.vs n hn
 generalize findE (frOf size used) n=E at*;clear hS hH hk hf;go_enter Tryz.func42,Tryz.ntmps42;go_wp2_with fail;refine(hpa.out _ hm0.out).mono ?_;rintro e w1 ⟨rfl,hm1⟩;have hm1H:=Lib.hid (hm0.out.nil_then hm1);have hx1:=Lib.hid (hm1.at hx0.out (by simp));clear hm1 hpa hm0 hx0;go_wp2_with fail;refine(hal.out _ hm1H.out).mono ?_;rintro e w2 ⟨rfl,hm2⟩;have hm2H:=Lib.hid (hm1H.out.nil_then hm2);have hx2:=Lib.hid (hm2.at hx1.out (by simp));have hc:=cells_of hx2.out;have hfz:=frozen_of hx2.out;clear hm2 hal hm1H hx1;go_wp2_with fail;have hq:=at_setCell (o:=1) (v:=.int .i64 0) (at_setCell (o:=0) (v:=.int .i64 0) hx2.out);refine bodyPost_ret (ret_cell_tmp Tryz.results42 rfl rfl hq Tryz.underlying56 rfl (by kernel_rfl)) rfl ⟨rfl,?_⟩;exact((hm2H.out.setCell (p:=⟨w.heap.size,0,none⟩) (.inr (Nat.le_refl _)) (.int .i64 0)).setCell (p:=⟨w.heap.size,1,none⟩) (.inr (Nat.le_refl _)) (.int .i64 0))
theorem aralloc_yes {ar:Nat} {size:Int} {used:List Ext} {B:List Int} {w:World} {f:List Nat} (h:(arC ar size used B).on w f) (n:Int) (hn:findE (frOf size used) n=0) (hul:used.length≤5000):
  Calls Tryz.prog 42 #[.pointer (some ⟨ar,0,none⟩),.int .i64 n] w (Takes (arC ar size (used++[findX (frOf size used) n]) B) (.tuple #[.agg #[.int .i64 (findX (frOf size used) n).1,.int .i64 (findX (frOf size used) n).2],.int .i64 0]) w f):=by
 obtain⟨hk,ab,bv,hH⟩:=h;have hf:=hk.u.free hk.s1;have hl:=hk.u.free_len hk.s1;obtain⟨x1,x2,x3⟩:=alloc_x hk hn;have hS0:=Lib.hid ((Scene.start hH).alloc (.cells #[.int .i64 0,.int .i64 0] 56));have hpa:=Lib.hid fun w' (h':Scene f w (blockC w.heap.size (.cells #[.int .i64 0,.int .i64 0] 56 (0,0))::arP ar ab bv (frOf size used) used B) w')=>parts_ok (h'.block 1 rfl)
 have hal:=Lib.hid fun w' f' (h':(alC ab (frOf size used) used).on w' f')=>alalloc_yes h' hf.vs (by omega) n hn x1
 have hx2:=Lib.hid x2;have hx3:=Lib.hid x3;have hkH:=Lib.hid hk;generalize findX (frOf size used) n=X at*;obtain⟨xo,xl⟩:=X;clear hH hk hf hl x1 x2 x3 hn;go_enter Tryz.func42,Tryz.ntmps42;go_wp2_with fail;refine(hpa.out _ hS0.out).mono ?_;rintro e w1 ⟨rfl,hm1⟩;have hS1:=Lib.hid (hS0.out.then hm1);clear hm1 hpa hS0;go_wp2_with fail;obtain⟨fa,ha,hput⟩:=hS1.out.part 2 rfl;refine(hal.out _ _ ha).mono ?_;rintro e w2 ⟨fr',hless,f',rfl,q1,q2,q3⟩;have hS2:=Lib.hid (hput w2 f' _ q1 q2 q3);have hlessH:=Lib.hid hless;have hc:=cells_of (hS2.out.block 0 rfl);have hfz:=frozen_of (hS2.out.block 0 rfl);clear hput q1 q2 q3 hal hS1 ha hless;go_wp2_with fail;have hS3:=((hS2.out.blockSet 0 rfl 0 (.int .i64 xo)).blockSet 0 rfl 1 (.int .i64 xl));refine bodyPost_ret (ret_cell_tmp Tryz.results42 rfl rfl (hS3.block 0 rfl) Tryz.underlying56 rfl (by kernel_rfl)) rfl ?_;obtain⟨f6,p1,p2,p3⟩:=(hS3.erase 0).done;refine⟨f6,rfl,⟨⟨hkH.out.s1,hx2.out,by simp;omega,hkH.out.len,hkH.out.byte⟩,ab,bv,?_⟩,p2,p3⟩;rw[hx3.out _ hlessH.out];exact p1
theorem arnew_ok {F:List Nat} {W w:World} {cs:List Comp} (hS:Scene F W cs w) (size:Int) (h0:0≤size) (h1:size≤1048576):
  Calls Tryz.prog 23 #[.int .i64 size] w fun e w'=>∃ar,e=.returned (.tuple #[.pointer (some ⟨ar,0,none⟩),.int .i64 0])∧Scene F W (arC ar size [] (List.replicate size.toNat 0)::cs) w':=by
 obtain⟨n,rfl⟩:=Int.eq_ofNat_of_zero_le h0;have hal:=Lib.hid (alnew_ok hS n h0 h1);have hmk:=fun w=>make_bytes n (by omega) w
 have hmkH:=Lib.hid hmk;clear hS hmk;go_enter Tryz.func23,Tryz.ntmps23;go_wp2_with fail;refine hal.out.mono ?_;rintro e w1 ⟨ab,rfl,hS1⟩;have hS1H:=Lib.hid hS1;clear hS1 hal;obtain⟨w2,hr2,hrow,hm2⟩:=hmkH.out w1;have hrowH:=Lib.hid hrow;have hm2H:=Lib.hid hm2;have hgt:=hm2.size;clear hm2 hrow hmkH;go_wp2_with fail;go_ret2;have hlen:(List.replicate n (0:Int)).length=n:=by simp
 have hS2:=hS1H.out.add (c:=rowC (.slice (some ⟨w1.heap.size,0,none⟩) n n) n 5 1 (bvals (List.replicate n 0))) (f:=[w1.heap.size]) hm2H.out ⟨row_base hrowH.out (Nat.zero_le _),rfl⟩ (by simp);have hS3:=(hS2.alloc (.cells #[.pointer (some ⟨ab,0,none⟩),.slice (some ⟨w1.heap.size,0,none⟩) n n] 147)).out 2 rfl |>.out 1 rfl;refine⟨_,rfl,?_⟩;refine Scene.shut1 (c:=arC w2.heap.size n [] (List.replicate (n:Int).toNat 0)) [_,_,_] hS3 fun g hg=> ?_
 rw[Int.toNat_natCast];refine⟨⟨h1,⟨by simp,List.Pairwise.nil⟩,by simp,by simp,fun b hb=>by rw[List.eq_of_mem_replicate hb];omega⟩,ab,.slice (some ⟨w1.heap.size,0,none⟩) n n,?_⟩;unfold arP;rw[frOf_nil h1,hlen];exact hg
end Go.Proofs.YteidpgdfocjdbaaGreat
namespace Go.Proofs.YteidpgdfocjdbaaGreat.Qt
open Go Go.RowKit Go.Stg
theorem subE_zero {x q:Q} (h:subE x q=0) (hx:x.pos):negB q=false∧overB x q=false∧(x.sub q).pos∧q.pos:=by
 unfold subE at h;split at h
 ·cases h
 ·rename_i hn;have h1:negB q=false:=by cases hq:negB q with|false=>rfl|true=>exact absurd (.inl hq) hn
  have h2:overB x q=false:=by cases hq:overB x q with|false=>rfl|true=>exact absurd (.inr hq) hn
  refine⟨h1,h2,?_⟩;simp only[negB,overB,Bool.or_eq_false_iff,decide_eq_false_iff_not]at h1 h2;obtain⟨⟨a1,a2⟩,⟨b1,b2⟩,c1,c2⟩:=hx;simp only[Q.pos,Q.sub];omega
theorem Sub_yes (p:Int) (q l:Q) (b:Nat) (mo:Option Nat) (f:Int→Q) (w:World) (hM:MeterAt w b mo l f) (h:subE (f p) q=0):
  Calls Tryz.prog 57 #[.pointer (some ⟨b,0,none⟩),.int .i64 p,.agg #[.int .i64 q.b,.int .i64 q.o,.int .i64 q.r]] w (Changed (.int .i64 0) b mo l (upd f p ((f p).sub q)) w):=by
 have hM1:=hM.mod ((Mod.refl [] w).alloc (.cells #[.int .i64 q.b,.int .i64 q.o,.int .i64 q.r] 33 (0,0))) (by simp);have HG:=Lib.hid (Get_any p l b mo f _ hM1);have hx:=hM.has p;obtain⟨hn,ho,hap,hqp⟩:=subE_zero h hx;have hp':=upd_pos (p:=p) hM.has hap;clear h hM1;simp only[overB,Bool.or_eq_false_iff,decide_eq_false_iff_not,Int.not_lt]at ho;obtain⟨⟨o1,o2⟩,o3⟩:=ho;obtain⟨⟨q1,q2⟩,⟨q3,q4⟩,q5,q6⟩:=hqp;obtain⟨⟨x1,x2⟩,⟨x3,x4⟩,x5,x6⟩:=hx;obtain⟨hl,hf,hb,hmap,hne⟩:=hM;have hlb:=lt_of hb;have hnil:∀w,(binOp .neq 140 (.map mo) (.map none)).run Tryz.prog w=.ok (.bool (!mo.isNone)) w:=fun w=>run_neq_map_nil w _ _ _ mo Tryz.underlying140
 cases mo with
 |none=>
  simp only[Option.isNone_none,Bool.not_true]at hnil;go_enter Tryz.func57,Tryz.ntmps57;go_wp2_with fail;refine HG.out.mono ?_;rintro e w1 ⟨rfl,hm1⟩;have hb1:=hm1.at (at_alloc_old hb) (by simp);have hq1:=hm1.at (at_alloc w _) (by simp);have hcq:=cells_of hq1;have hm2:=((Mod.refl [] w).alloc (.cells #[.int .i64 q.b,.int .i64 q.o,.int .i64 q.r] 33 (0,0))).nil_then hm1;have hlt:=hm1.gt;go_wp2_with fail;refine(negative_any q _).mono ?_;rw[hn];rintro e w3 ⟨rfl,hm3⟩;have hb3:=hm3.at (at_alloc_old hb1) (by simp);have hcb3:=cells_of hb3;have hcq3:=cells_of (hm3.at (at_alloc_old hq1) (by simp));have hcx3:=cells_of (hm3.at (at_alloc w1 _) (by simp));have hm4:=(hm2.alloc _).nil_then hm3;clear hm1 hm2 hm3;go_wp2;go_ret;refine⟨none,rfl,hm4.mono (by simp),⟨hl,hp',hb3,?_,by simp⟩,by simp⟩;intro k;have hk:=hmap k;have hpz:=hmap p;unfold upd;split
  ·rw[hpz]at o1 o2 o3⊢;simp only[Q.zero]at o1 o2 o3;simp only[Q.zero,Q.sub,Q.mk.injEq];omega
  ·exact hk
 |some bm=>
  obtain⟨es,c,hbm,hes,hg⟩:=hmap;have hnb:b≠bm:=fun e=>hne (by rw[e])
  have hlbm:=lt_of hbm;simp only[Option.isNone_some,Bool.not_false]at hnil;go_enter Tryz.func57,Tryz.ntmps57;go_wp2_with fail;refine HG.out.mono ?_;rintro e w1 ⟨rfl,hm1⟩;have hb1:=hm1.at (at_alloc_old hb) (by simp);have hbm1:=hm1.at (at_alloc_old hbm) (by simp);have hq1:=hm1.at (at_alloc w _) (by simp);have hcq:=cells_of hq1;have hm2:=((Mod.refl [b,bm] w).alloc (.cells #[.int .i64 q.b,.int .i64 q.o,.int .i64 q.r] 33 (0,0))).nil_then hm1;have hlt:=hm1.gt;go_wp2_with fail;refine(negative_any q _).mono ?_;rw[hn];rintro e w3 ⟨rfl,hm3⟩;have hWb:=hm3.at (at_alloc_old hb1) (by simp);have hWm:=hm3.at (at_alloc_old hbm1) (by simp);have hWq:=hm3.at (at_alloc_old hq1) (by simp);have hWx:=hm3.at (at_alloc w1 _) (by simp);have hcb3:=cells_of hWb;have hcq3:=cells_of hWq;have hcx3:=cells_of hWx;have hm4:=(hm2.alloc _).nil_then hm3;clear hm1 hm2 hm3;go_wp2_with fail;clear hcb3 hcq3 hcx3 hcq;have hk1:=GW.cells (S:=[bm]) hWb (by simp;omega);have hk2:=GW.cells (S:=[bm]) hWq (by simp;omega);have hk3:=GW.cells (S:=[bm]) hWx (by have:=lt_of hbm1;simp;omega);refine wp_region_stage (fun w'=>∃x:GW [bm] w3,w'=x.1) (fun w'=>Mod [] w3 w') (by kernel_rfl) (by kernel_rfl) (fun _ h=>InGW.of (h.mono (by simp))) (Mod.refl _ _).drew ?_;refine stage_quiet 21 (by kernel_rfl) ?_;simp only[tA,tB,tC,tD];(repeat go_big_quiet_step (fail));refine wpQuiet_nil ?_;refine stage_mapUpdate bm es c p (qv ((f p).sub q)) (fun w'=>Mod [bm] w3 w'∧w'.heap[bm]? =some (.map (mput p (qv ((f p).sub q)) c es).1 (mput p (qv ((f p).sub q)) c es).2)) rfl Tryz.underlying140 Tryz.underlying3 rfl rfl rfl rfl hes (fun w' h=>h.at hWm (by simp)) (fun w' h=>⟨(h.mono (by simp)).setMap (.inl (by simp)) _,at_setMap (h.at hWm (by simp))⟩) (fun w' h=>InGW.of h.1) ?_;simp only[Act.put];refine stage_nil fun w2 hm2=> ?_
  go_wp2;go_ret;refine⟨some bm,rfl,hm4.then hm2.1 (by simp),⟨hl,hp',hm2.1.at hWb (by simp;omega),MapAt.put hm2.2 hes hg,hne⟩,?_⟩;intro x hx;exact .inl hx
end Go.Proofs.YteidpgdfocjdbaaGreat.Qt
namespace Go.Proofs.YteidpgdfocjdbaaGreat.Ty
open Go Go.RowKit Go.Stg
attribute [local go_sem] Oper.semAt_some
theorem grown_mod {a b:World} (h:Mod [] a b) {row:Option Nat}:a.grownBy b row:=
 let hb:=h.below;⟨hb.os,hb.tape,hb.output,hb.size,fun k hk _=>hb.block k hk⟩
abbrev Elm:=Int×(Ty×Value)
def enc (x:Elm):Array Value:=#[.int .i64 x.1,.agg #[.int .i64 x.2.1.1,x.2.2]]
end Go.Proofs.YteidpgdfocjdbaaGreat.Ty
