/- Joined contracts. No conditions. -/
import Derived.Test.YteidpgdfocjdbaaGreatCS
import Derived.Test.YteidpgdfocjdbaaGreatC03
import Derived.Test.YteidpgdfocjdbaaGreatC11
set_option maxHeartbeats 8000000
set_option maxRecDepth 10000
namespace Go.Proofs.YteidpgdfocjdbaaGreat.Ty
open Go Go.RowKit Go.Stg
def Src (w:World) (v:Value) (m:Nat) (news:List Value):Prop:=
 (v=.slice none 0 0∧m=0∧news=[])∨∃a c,v=.slice (some a) m c∧∀j u,news[j]? =some u→w.cell? (a.add j)=some u
theorem src_row {w:World} {b sz n:Nat} {e:TypeId} {v:Value} {xs:List Value} (h:w.ownsRow b e sz v n xs):Src w v n xs:=by
 rcases row_cases h with⟨h1,h2,h3⟩|⟨g,cap,h1,_⟩
 ·exact .inl ⟨h1,h2,h3⟩
 ·exact .inr ⟨⟨g,0,none⟩,cap,h1,h.cells (g:=g) (by rw[h1];rfl)⟩
theorem src_fields {w:World} {v:Value} {fs:List Fld} (h:FieldsAt w v fs):Src w v fs.length (fcells fs):=by
 have h':=h;rcases h with⟨h1,h2⟩|⟨sb,so,cap,rfl,_⟩
 ·subst h2;exact .inl ⟨h1,rfl,rfl⟩
 ·exact .inr ⟨_,cap,rfl,fields_cells h'⟩
theorem app_src {P:Program} (w:World) (t ty e:TypeId) (i:TypeInfo) (z:Value) (size bytes:Nat) (ht:P.underlying t=some (.slice e)) (hi:P.info? e=some i) (hz:i.zero=some z)
  (hsize:i.size=size) (hby:i.bytes=bytes) (hzs:z.cells.size=size) (hsz:0<size) (v:Value) (n:Nat) (xs:List Value) (hown:w.ownsRow 0 e size v n xs)
  (u:Value) (m:Nat) (news:List Value) (hu:Src w u m news) (hl:news.length=m*size) (h1:∀u∈news,u.oneCell'=true) (h63:n+m≤maxLen) (hbytes:(n+m)*bytes≤140737488355328):
  ∃v' w',(Builtin.append_ #[t,t] ty #[v,u]).run P w=.ok v' w'∧w'.ownsRow 0 e size v' (n+m) (xs++news)∧w.grownBy w' v.ownBlock∧∀x,v'.ownBlock=some x→v.ownBlock=some x∨w.heap.size≤x:=by
 rcases hu with⟨rfl,rfl,rfl⟩|⟨a,c,rfl,hc⟩
 ·exact⟨v,w,run_append_owned_none w 0 t ty e i size ht hi v n xs hown,by simpa using hown,⟨rfl,rfl,rfl,Nat.le_refl _,fun _ _ _=>rfl⟩,fun x hx=>.inl hx⟩
 ·exact run_append_row (P:=P) w t ty e i z size bytes ht hi hz hsize hby hzs hsz v n xs hown a m c news hl hc h1 h63 hbytes
theorem tcells_one {w:World} {L:List (Ty×Value)} (h:∀p∈L,FieldsAt w p.2 p.1.2):∀u∈flat tcell L,u.oneCell'=true:=by
 intro u hu;obtain⟨p,hp,hu⟩:=List.mem_flatMap.1 hu;simp only[tcell,List.mem_cons,List.not_mem_nil,or_false]at hu;rcases hu with rfl|rfl
 ·rfl
 ·rcases h p hp with⟨h,_⟩|⟨_,_,_,h,_⟩<;>rw[h]<;>rfl
theorem row_fresh {w:World} {s:Nat} {T:TypeId} (h:w.heap[s]? =some (.cells #[] T (0,0))) (b sz:Nat) (hb:b≤s):w.ownsRow b T sz (.slice (some ⟨s,0,none⟩) 0 0) 0 []:=
 ⟨by simp,.inr ⟨s,0,#[],rfl,hb,h,Nat.le_refl _,Nat.zero_le _,by simp,by simp⟩⟩
def Fr2 (W:World) (v:Value) (n:Nat) (xs:List Value) (v':Value) (n':Nat) (ys:List Value) (w:World):Prop:=Mod [] W w∧w.ownsRow W.heap.size 25 2 v n xs∧w.ownsRow W.heap.size 63 2 v' n' ys∧∀x,v.ownBlock=some x→v'.ownBlock≠some x
theorem scene_mergeD {F:List Nat} {W w:World} {A L:List (Ty×Value)} {x b r r2:Comp} (h:Scene F W [Comp.all [fieldsC A,r2],x,b,r,fieldsC L] w):Scene F W [b,r2,fieldsC (L++A)] w:=by
 obtain⟨hm,fp,⟨f1,_,⟨p1,_,b1,⟨p2,_,b2,rfl,e2,rfl⟩,e1,rfl⟩,⟨f2,_,a2,⟨f3,_,a3,⟨f4,_,a4,⟨f5,_,a5,rfl,d5,rfl⟩,d4,rfl⟩,d3,rfl⟩,d2,rfl⟩,d1,rfl⟩,hf⟩:=h;have d1':∀y,y∈p1∨y∈p2→y∉f3∧y∉f5:=fun y hy=>by
  have:=d1 y (by simpa using hy);simp only[List.mem_append,not_or]at this;exact⟨this.2.1,this.2.2.2.1⟩
 refine⟨hm,f3++(p2++((f5++p1)++[])),⟨f3,_,a3,⟨p2,_,b2,⟨f5++p1,[],⟨fun p hp=> ?_,?_⟩,rfl,by simp,rfl⟩,fun y hy hy2=> ?_,rfl⟩,fun y hy hy2=> ?_,rfl⟩,fun y hy=>hf y ?_⟩
 ·rcases List.mem_append.1 hp with hp|hp
  ·exact a5.1 p hp
  ·exact b1.1 p hp
 ·rw[a5.2,b1.2];simp[fblocks]
 ·simp only[List.mem_append,List.not_mem_nil,or_false]at hy2;rcases hy2 with h|h
  ·exact(d1' y (.inr hy)).2 h
  ·exact e1 y h (by simpa using hy)
 ·simp only[List.mem_append,List.not_mem_nil,or_false]at hy2;rcases hy2 with h|h|h
  ·exact(d1' y (.inr h)).1 hy
  ·exact d3 y hy (by simp[h])
  ·exact(d1' y (.inl h)).1 hy
 ·simp only[List.mem_append,List.not_mem_nil,or_false]at hy⊢;rcases hy with h|h|h|h
  ·exact .inr (.inr (.inl h))
  ·exact .inl (.inr h)
  ·exact .inr (.inr (.inr (.inr h)))
  ·exact .inl (.inl h)
theorem row_srcT {w:World} {v:Value} {n:Nat} {xs:List Value} {b:Nat} (h:w.ownsRow b 25 2 v n xs):∃a m c,v=.slice a m c:=by
 rcases row_cases h with⟨h,_⟩|⟨g,cap,h,_⟩
 ·exact⟨_,_,_,h⟩
 ·exact⟨_,_,_,h⟩
theorem apart_or4 {a b:Option Nat} (h:∀x,a=some x→b≠some x):a=none∨a≠b:=by
 cases ha:a with
 |none=>exact .inl rfl
 |some y=>exact .inr fun e=>h y ha e.symm
theorem rregister_ok {rb:Nat} {R:List Ty} {w:World} {f:List Nat} (h:(regC 42 rb R).on w f) (len:Int) (v:Value) (fs:List Fld) (hF:FieldsAt w v fs) (hn: -9223372036854775808≤len) (hn2:len≤9223372036854775807):
  Calls Tryz.prog 10 #[.pointer (some ⟨rb,0,none⟩),.agg #[.int .i64 len,v]] w (Takes (regC 42 rb (regN R (len,fs))) (regV R (len,fs)) w f):=by
 obtain⟨sv,L,hLR,hok,h255,hH⟩:=h;have hS:=(Scene.start hH).alloc (.cells #[.int .i64 len,v] 25);have hFA:=hF.mod ((Mod.refl [] w).alloc (.cells #[.int .i64 len,v] 25));have hC:=Lib.hid (rcheck_ok len v fs _ hFA hn hn2);have hlenR:L.length=R.length:=by rw[←hLR,List.length_map]
 have hlenH:=Lib.hid hlenR;have hL255:L.length≤255:=by omega
 have hbox:=hS.block 0 rfl;have cbox:=cells_of hbox;have hSH:=Lib.hid hS;have hFH:=Lib.hid hFA;have hokH:=Lib.hid hok;have hLRH:=Lib.hid hLR;clear hS hFA hF hH hok hLR hbox hlenR;generalize hR':regN R (len,fs)=R';generalize hV':regV R (len,fs)=V';have hR'H:=Lib.hid hR';have hV'H:=Lib.hid hV';clear hR' hV';go_enter Tryz.func10,Tryz.ntmps10;go_wp2_with fail;generalize hbx:w.heap.size=bx at*;generalize w.alloc (.cells #[.int .i64 len,v] 25)=W0 at*;refine hC.out.mono ?_;rintro e w1 ⟨rfl,hm1⟩;have hS1:=Lib.hid (hSH.out.then hm1);have hF1:=Lib.hid (hFH.out.mod hm1);clear hC hSH hFH hm1 cbox;by_cases he:errT len fs=0
 ·rw[he];have hfl:fs.length≤32:=(TyOk.bounds (t:=(len,fs)) he).2.2;have heH:=Lib.hid he;clear he;go_wp2_with fail;go_loopw [7] (fun i wr=>∃k:Nat,k≤L.length∧i=.int .i64 k∧Mod [] w1 wr∧(len,fs)∉(L.map (·.1)).take k) (fun i _=>L.length-(intOf i).toNat)
  case atStart=>exact⟨0,by omega,rfl,Mod.refl _ _,by simp⟩
  case round=>
   obtain⟨k,hk,rfl,hm,hno⟩:=hrel;have hnoH:=Lib.hid hno;clear hno;have hSW:=Lib.hid (hS1.out.then hm);have hFW:=Lib.hid (hF1.out.mod hm);have hb0:=hSW.out.block 0 rfl;have hb1:=hSW.out.block 1 rfl;have hb0H:=Lib.hid hb0;have hb1H:=Lib.hid hb1;have hrow:=hSW.out.row 2 rfl;have hln:=fun ty w=>row_len (ty:=ty) Tryz.underlying40 hrow w
   have hcb:=cells_of hb1;by_cases hk1:k<L.length
   ·obtain⟨g,cap,rfl,hg,r0,r1⟩:=ty_cells hrow rfl hk1;have hFk:=Lib.hid (scene_fields 3 hSW.out rfl _ (List.getElem_mem hk1));have hHere:=Lib.hid fun he=>idxT_here (R:=L.map (·.1)) (by simpa using hk1) hnoH.out he
    have hNext:L[k].1≠(len,fs)→(len,fs)∉(L.map (·.1)).take (k+1):=fun hne hmem=>by
     rw[take_snoc _ (show k<(L.map (·.1)).length by simpa using hk1)]at hmem;rcases List.mem_append.1 hmem with h|h
     ·exact hnoH.out h
     ·rw[List.mem_singleton,List.getElem_map]at h;exact hne h.symm
    have hNextH:=Lib.hid hNext;have hge:(L.map (·.1))[k]'(by simpa using hk1)=L[k].1:=List.getElem_map _;have hgeH:=Lib.hid hge;have k1:=GW.cells (S:=[]) hb0 (by simp);have k2:=GW.cells (S:=[]) hb1 (by simp);have k3:=GW.cell1 (S:=[]) r0 hg (by simp);have k4:=GW.cell1 (S:=[]) r1 hg (by simp);clear hNext hge hb0 hb1 hrow r0 r1;go_wp2_with fail;clear hcb hln;refine wp_region_pure (by kernel_rfl) (by kernel_rfl) ?_;refine stage_quiet 8 (by kernel_rfl) ?_;simp only[tA,tB,tC,tD];(repeat go_big_quiet_step (fail));refine wpQuiet_nil ?_;refine stage_pure 32 _ (.bool (decide (L[k].1.1=len∧L[k].1.2=fs))) rfl Tryz.call32 rfl rfl (fun w' h=>rsame_ok L[k].1.1 len L[k].2 v L[k].1.2 fs w' (hFk.out.mod h) (hFW.out.mod h)) ?_;simp only[Act.put,sA,sB,sC];refine stage_nil fun w9 hm9=> ?_
    clear k1 k2 k3 k4;have hm2:=hm.nil_then hm9;by_cases he:L[k].1.1=len∧L[k].1.2=fs
    ·have hd:decide (L[k].1.1=len∧L[k].1.2=fs)=true:=decide_eq_true he;rw[hd];have het:L[k].1=(len,fs):=Prod.ext he.1 he.2;have hmem:(len,fs)∈R:=by rw[←hLRH.out, ←het];exact List.mem_map_of_mem (List.getElem_mem hk1)
     have hi:=hHere.out (hgeH.out.trans het);rw[hLRH.out]at hi;unfold idxT at hi;rw[if_pos hmem]at hi;obtain⟨k1,k2⟩:=reg_known (t:=(len,fs)) heH.out hmem;have eR:=hR'H.out.symm.trans k1;have eV:=hV'H.out.symm.trans k2;subst eR eV;clear hR'H hV'H;have hiH:=Lib.hid hi;clear hd he het hmem k1 k2 hi;go_wp2_with fail;go_ret2;refine reg_takes ?_ ((hS1.out.then hm2).erase 0) hLRH.out hokH.out h255;rw[hiH.out];rfl
    ·have hd:decide (L[k].1.1=len∧L[k].1.2=fs)=false:=decide_eq_false he;rw[hd];have hN:=Lib.hid (hNextH.out fun e=>he ⟨by rw[e],by rw[e]⟩);clear hd he;go_wp2_with fail;go_roundw
     case rel=>exact⟨k+1,by omega,by go_num,hm2,hN.out⟩
     case measure=>simp[intOf];omega
   ·have hno:(len,fs)∉R:=by
     have:=hnoH.out;rw[List.take_of_length_le (by simp;omega),hLRH.out]at this;exact this
    obtain rfl:k=L.length:=by omega
    by_cases hl:R.length<255
    ·have hl2:L.length<255:=by have:=hlenH.out;omega
     obtain⟨k1,k2⟩:=reg_new (t:=(len,fs)) heH.out hno hl;have eR:=hR'H.out.symm.trans k1;have eV:=hV'H.out.symm.trans k2;subst eR eV;clear hR'H hV'H;clear k1 k2 hno hb0 hb1;go_wp2_with fail;have k1:=GW.cells (S:=[]) hb0H.out (by simp);have k2:=GW.cells (S:=[]) hb1H.out (by simp);have hrowH:=Lib.hid hrow;have htone:=Lib.hid (fun w' (hm':Mod [] wr w')=>tcells_one (w:=w') (L:=L) (scene_fields 3 (hSW.out.then hm') rfl));clear hcb hln hrow hk1;obtain⟨i0,hi0,hi1,hi2,hi3⟩:=info_parts info_type;obtain⟨j0,hj0,hj1,hj2,hj3⟩:=info_parts info_field;generalize wr=W at*;refine wp_region_float 9 _ (fun w'=>∃x:GW [] W,w'=x.1) (fun w'=>Mod [] W w') (by kernel_rfl) rfl rfl (by kernel_rfl) (by kernel_rfl) (fun _ h=>InGW.of h) (Mod.refl _ _).drew ?_;dsimp only[List.getElem_toArray,List.getElem_cons_succ,List.getElem_cons_zero];refine float_quiet 1 (by kernel_rfl) (by decide) ?_;simp only[tA,tB,tC,tD,Nat.reduceAdd];(repeat go_big_quiet_step (fail));refine wpQuiet_nil ?_;refine float_eff (by decide) rfl rfl ?A rfl (by simp) ?B
     case A=>
      refine eff_alloc (fun s=>.slice (some ⟨s,0,none⟩) 0 0) (.cells #[] 25 (0,0)) (fun s w'=>Mod [] W w'∧W.heap.size≤s∧w'.heap[s]? =some (.cells #[] 25 (0,0))) (by intro s s' h;simpa using h) (fun w' hw=> ?_) (fun w' hw=>⟨hw.alloc _,hw.size,at_alloc _ _⟩) (fun s w' h=>InGW.of h.1) (fun s=> ?_)
      ·kernel_rfl
      simp only[Act.put,sA,sB,sC];refine float_quiet 4 (by kernel_rfl) (by decide) ?_;simp only[tA,tB,tC,tD,Nat.reduceAdd];(repeat go_big_quiet_step (fail));refine wpQuiet_nil ?_;refine float_eff (by decide) rfl rfl ?A2 rfl (by simp) ?B2
      case A2=>
       refine eff_any (fun u=>∃a m c,u=.slice a m c) (fun u w'=>Mod [] W w'∧w'.ownsRow W.heap.size 25 2 u L.length (flat tcell L)) ⟨_,none,0,0,rfl⟩ (fun w' hw=> ?_) (fun u w' h=>InGW.of h.1) (fun u hu=> ?_)
       ·obtain⟨g1,g2,g3⟩:=hw;have hfr:=row_fresh g3 0 2 (Nat.zero_le _);obtain⟨v',w3,hr,r2,r3,r4⟩:=app_src (P:=Tryz.prog) w' 40 40 25 i0 (.agg #[.int .i64 0,.slice none 0 0]) 2 32 Tryz.underlying40 hi0 hi1 hi2 hi3 rfl (by decide) _ 0 [] hfr sv L.length (flat tcell L) (src_row (row_mod hrowH.out g1 (by simp))) (flat_length tcell_length L) (htone.out w' g1) (by unfold maxLen;omega) (by omega);simp only[Nat.zero_add,List.nil_append]at r2;have hnew:∀x,v'.ownBlock=some x→W.heap.size≤x:=fun x hx=>by
         rcases r4 x hx with h|h
         ·have h':some s=some x:=h;have:=Option.some.inj h';omega
         ·exact Nat.le_trans (g1).size h
        have gm:Mod [] W w3:=(g1).grown r3 (fun k hk=>.inr (by have h':some s=some k:=hk;have:=Option.some.inj h';omega));obtain⟨ua,um,uc,rfl⟩:=row_srcT r2;exact⟨_,w3,exec_append _ _ 40 rfl rfl rfl hr,⟨ua,um,uc,rfl⟩,gm,row_all r2 hnew⟩
       obtain⟨ua,um,uc,rfl⟩:=hu;simp only[Act.put,sA,sB,sC];refine float_quiet 2 (by kernel_rfl) (by decide) ?_;simp only[tA,tB,tC,tD,Nat.reduceAdd];(repeat go_big_quiet_step (fail));refine wpQuiet_nil ?_;refine float_here ?_;refine stage_alloc (fun s=>.slice (some ⟨s,0,none⟩) 0 0) (.cells #[] 63 (0,0)) (fun s w'=>Fr2 W (.slice ua um uc) L.length (flat tcell L) (.slice (some ⟨s,0,none⟩) 0 0) 0 [] w') (by intro s s' h;simpa using h) rfl rfl (fun w' hw=> ?_) (fun w' hw=> ?_) (fun s w' h=>InGW.of h.1) (fun s2=> ?_)
       ·kernel_rfl
       ·refine⟨hw.1.alloc _,row_mod hw.2 ((Mod.refl [] w').alloc _) (by simp),row_fresh (at_alloc _ _) _ _ hw.1.size,fun x hx hy=> ?_⟩;have:=(hw.2.lt x hx).2;have hy':some w'.heap.size=some x:=hy;have:=Option.some.inj hy';omega
       simp only[Act.put,sA,sB,sC];refine stage_quiet 2 (by kernel_rfl) ?_;simp only[tA,tB,tC,tD];(repeat go_big_quiet_step (fail));refine wpQuiet_nil ?_;refine stage_any (fun y=>∃a m c,y=.slice a m c) (fun y w'=>Fr2 W (.slice ua um uc) L.length (flat tcell L) y fs.length (fcells fs) w') rfl rfl ⟨_,none,0,0,rfl⟩ (fun w' hw=> ?_) (fun y w' h=>InGW.of h.1) (fun y hy=> ?_)
       ·obtain⟨g1,g2,g3,g4⟩:=hw;obtain⟨v',w3,hr,r2,r3,r4⟩:=app_src (P:=Tryz.prog) w' 23 23 63 j0 (.agg #[.int .i64 0,.int .i64 0]) 2 16 Tryz.underlying23 hj0 hj1 hj2 hj3 rfl (by decide) _ 0 [] (row_base g3 (Nat.zero_le _)) v fs.length (fcells fs) (src_fields (hFW.out.mod g1)) (fcells_length fs) (fcells_oneCell fs) (by unfold maxLen;omega) (by omega);simp only[Nat.zero_add,List.nil_append]at r2;have hnew:∀x,v'.ownBlock=some x→W.heap.size≤x:=fun x hx=>by
         rcases r4 x hx with h|h
         ·exact(g3.lt x h).1
         ·exact Nat.le_trans g1.size h
        obtain⟨ya,ym,yc,rfl⟩:=row_src r2;refine⟨_,w3,exec_append _ _ 23 rfl rfl rfl hr,⟨ya,ym,yc,rfl⟩,g1.grown r3 (fun k hk=>.inr (g3.lt k hk).1),g2.kept r3 (apart_or4 g4),row_all r2 hnew,fun x hx hy=> ?_⟩;rcases r4 x hy with h|h
        ·exact g4 x hx h
        ·have:=(g2.lt x hx).2;omega
       obtain⟨ya,ym,yc,rfl⟩:=hy;simp only[Act.put,sA,sB,sC];refine stage_quiet 1 (by kernel_rfl) ?_;simp only[tA,tB,tC,tD];(repeat go_big_quiet_step (fail));refine wpQuiet_nil ?_;refine stage_alloc (fun s=>.slice (some ⟨s,0,none⟩) 1 1) (.cells #[.int .i64 len,.slice ya ym yc] 25 (0,0)) (fun s w'=>Fr2 W (.slice ua um uc) L.length (flat tcell L) (.slice ya ym yc) fs.length (fcells fs) w'∧w'.heap[s]? =some (.cells #[.int .i64 len,.slice ya ym yc] 25 (0,0))∧(Value.slice ua um uc).ownBlock≠some s) (by intro s s' h;simpa using h) rfl rfl (fun w' hw=> ?_) (fun w' hw=> ?_) (fun s w' h=>InGW.of h.1.1) (fun s=> ?_)
       ·kernel_rfl
       ·obtain⟨g1,g2,g3,g4⟩:=hw;exact⟨⟨g1.alloc _,row_mod g2 ((Mod.refl [] w').alloc _) (by simp),row_mod g3 ((Mod.refl [] w').alloc _) (by simp),g4⟩,at_alloc _ _,fun e=>by have:=(g2.lt _ e).2;omega⟩
       simp only[Act.put,sA,sB,sC];refine stage_any (fun u=>∃g cap,u=.slice (some ⟨g,0,none⟩) (L.length+1) cap) (fun u w'=>Fr2 W u (L.length+1) (flat tcell (L++[((len,fs),.slice ya ym yc)])) (.slice ya ym yc) fs.length (fcells fs) w') rfl rfl ⟨_,0,0,rfl⟩ (fun w' hw=> ?_) (fun u w' h=>InGW.of h.1) (fun u hu=> ?_)
       ·obtain⟨⟨g1,g2,g3,g4⟩,g5,g6⟩:=hw;obtain⟨v',w3,hr,r2,r3,r4⟩:=run_append_row (P:=Tryz.prog) w' 40 40 25 i0 (.agg #[.int .i64 0,.slice none 0 0]) 2 32 Tryz.underlying40 hi0 hi1 hi2 hi3 rfl (by decide) _ L.length (flat tcell L) (row_base g2 (Nat.zero_le _)) ⟨s,0,none⟩ 1 1 [.int .i64 len,.slice ya ym yc] rfl (fun j u hj=>by rw[add_at,Nat.zero_add,cells_of g5];simpa using hj) (by simp[Value.oneCell']) (by unfold maxLen;omega) (by omega);obtain⟨g',cap',rfl,_,_⟩:=row_pos r2 (by omega);have e:flat tcell L++[.int .i64 len,.slice ya ym yc]=flat tcell (L++[((len,fs),.slice ya ym yc)]):=by rw[flat_append,flat_one];rfl
        rw[e]at r2;have hnew:∀x,(Value.slice (some ⟨g',0,none⟩) (L.length+1) cap').ownBlock=some x→W.heap.size≤x:=fun x hx=>by
         rcases r4 x hx with h|h
         ·exact(g2.lt x h).1
         ·exact Nat.le_trans g1.size h
        refine⟨_,w3,exec_append _ _ 40 rfl rfl rfl hr,⟨g',cap',rfl⟩,g1.grown r3 (fun k hk=>.inr (g2.lt k hk).1),row_all r2 hnew,g3.kept r3 (apart_or4 fun x h1 h2=>g4 x h2 h1),fun x hx hy=> ?_⟩;rcases r4 x hx with h|h
        ·exact g4 x h hy
        ·have:=(g3.lt x hy).2;omega
       obtain⟨g,cap,rfl⟩:=hu;simp only[Act.put,sA,sB,sC];refine stage_quiet 2 (by kernel_rfl) ?_;simp only[tA,tB,tC,tD];(repeat go_big_quiet_step (fail));refine wpQuiet_nil ?_;refine stage_store (p:=⟨rb,0,none⟩) (u:=.slice (some ⟨g,0,none⟩) (L.length+1) cap) (fun w'=>w'.setCell ⟨rb,0,none⟩ (.slice (some ⟨g,0,none⟩) (L.length+1) cap)) rfl rfl (by kernel_rfl) rfl rfl rfl (fun w' hw=> ?_) (fun w' hw=> ?_)
       ·have c1:=cells_of (hw.1.at hb1H.out (by simp));have f1:=frozen_of (hw.1.at hb1H.out (by simp));clear k1 k2;go_simp
       ·obtain⟨g1,g2,g3,g4⟩:=hw;have hS3:=hSW.out.add (c:=Comp.all [fieldsC [((len,fs),.slice ya ym yc)],rowC (.slice (some ⟨g,0,none⟩) (L.length+1) cap) (L.length+1) 25 2 (flat tcell (L++[((len,fs),.slice ya ym yc)]))]) (f:=fblocks [((len,fs),.slice ya ym yc)]++((Value.slice (some ⟨g,0,none⟩) (L.length+1) cap).ownBlock.toList++[])) g1
         ⟨_,_,⟨fun p hp=>by rw[List.mem_singleton.1 hp];exact row_fields g3 rfl,rfl⟩,⟨_,_,⟨row_base g2 (Nat.zero_le _),rfl⟩,rfl,by simp,rfl⟩,fun x hx hy=>by
          obtain⟨p,hp,hx⟩:=mem_fblocks hx;rw[List.mem_singleton.1 hp]at hx;rw[List.append_nil,Option.mem_toList]at hy;exact g4 x hy hx,rfl⟩ (fun x hx=>by
          rcases List.mem_append.1 hx with hx|hx
          ·obtain⟨p,hp,hx⟩:=mem_fblocks hx;rw[List.mem_singleton.1 hp]at hx;exact(g3.lt x hx).1
          ·rw[List.append_nil,Option.mem_toList]at hx;exact(g2.lt x hx).1)
        have hS4:=scene_put 0 (scene_mergeD hS3) rfl 0 (.slice (some ⟨g,0,none⟩) (L.length+1) cap);have hcb:=cells_of (hS4.block 0 rfl);have hln:=fun ty w=>row_len (ty:=ty) Tryz.underlying40 (hS4.row 1 rfl) w
        have hS4H:=Lib.hid hS4;clear k1 k2 hS4 hS3 g1 g2 g3 g4;go_wp2_with fail;go_ret2;have hP:Scene f w (regP 42 rb (.slice (some ⟨g,0,none⟩) (L.length+1) cap) (L++[((len,fs),.slice ya ym yc)])) (w'.setCell ⟨rb,0,none⟩ (.slice (some ⟨g,0,none⟩) (L.length+1) cap)):=by
         unfold regP;rw[show(L++[((len,fs),Value.slice ya ym yc)]).length=L.length+1 by simp];exact hS4H.out
        refine reg_takes (by simp[←hlenH.out]) hP ?_ (fun t ht=> ?_) ?_
        ·rw[List.map_append,hLRH.out];rfl
        ·rcases List.mem_append.1 ht with h|h
         ·exact hokH.out t h
         ·rw[List.mem_singleton.1 h];exact heH.out
        ·have:=hlenH.out;rw[List.length_append];simp;omega
      case B2=>
       simp only[Nat.reduceSub,List.eraseIdx_cons_succ,List.eraseIdx_cons_zero];refine stage_alloc (fun s=>.slice (some ⟨s,0,none⟩) 0 0) (.cells #[] 63 (0,0)) (fun s2 w'=>Mod [] W w'∧(W.heap.size≤s∧w'.heap[s]? =some (.cells #[] 25 (0,0)))∧w'.ownsRow W.heap.size 63 2 (.slice (some ⟨s2,0,none⟩) 0 0) 0 []∧s≠s2) (by intro s s' h;simpa using h) rfl rfl (fun w' hw=> ?_) (fun w' hw=>⟨hw.1.alloc _,⟨hw.2.1,at_alloc_old hw.2.2⟩,row_fresh (at_alloc _ _) _ _ hw.1.size,by have:=lt_of hw.2.2;omega⟩) (fun s w' h=>InGW.of h.1) (fun s2=> ?_)
       ·kernel_rfl
       simp only[Act.put,sA,sB,sC];refine stage_any (fun u=>∃a m c,u=.slice a m c) (fun u w'=>Fr2 W u L.length (flat tcell L) (.slice (some ⟨s2,0,none⟩) 0 0) 0 [] w') rfl rfl ⟨_,none,0,0,rfl⟩ (fun w' hw=> ?_) (fun u w' h=>InGW.of h.1) (fun u hu=> ?_)
       ·obtain⟨g1,⟨g2,g3⟩,g4,g5⟩:=hw;have hfr:=row_fresh g3 0 2 (Nat.zero_le _);obtain⟨v',w3,hr,r2,r3,r4⟩:=app_src (P:=Tryz.prog) w' 40 40 25 i0 (.agg #[.int .i64 0,.slice none 0 0]) 2 32 Tryz.underlying40 hi0 hi1 hi2 hi3 rfl (by decide) _ 0 [] hfr sv L.length (flat tcell L) (src_row (row_mod hrowH.out g1 (by simp))) (flat_length tcell_length L) (htone.out w' g1) (by unfold maxLen;omega) (by omega);simp only[Nat.zero_add,List.nil_append]at r2;have hnew:∀x,v'.ownBlock=some x→W.heap.size≤x:=fun x hx=>by
         rcases r4 x hx with h|h
         ·have h':some s=some x:=h;have:=Option.some.inj h';omega
         ·exact Nat.le_trans (g1).size h
        have gm:Mod [] W w3:=(g1).grown r3 (fun k hk=>.inr (by have h':some s=some k:=hk;have:=Option.some.inj h';omega));obtain⟨ua,um,uc,rfl⟩:=row_srcT r2;refine⟨_,w3,exec_append _ _ 40 rfl rfl rfl hr,⟨ua,um,uc,rfl⟩,gm,row_all r2 hnew,g4.kept r3 (.inr fun e=>g5 (by simpa[Value.ownBlock]using e.symm)),fun x hx hy=> ?_⟩;have hy':some s2=some x:=hy;have hs2:=(g4.lt s2 rfl).2;rcases r4 x hx with h|h
        ·exact g5 (by have h':some s=some x:=h;rw[Option.some.inj h', ←Option.some.inj hy'])
        ·have:=Option.some.inj hy';omega
       simp only[Act.put,sA,sB,sC];obtain⟨ua,um,uc,rfl⟩:=hu;refine stage_quiet 2 (by kernel_rfl) ?_;simp only[tA,tB,tC,tD];(repeat go_big_quiet_step (fail));refine wpQuiet_nil ?_;refine stage_quiet 2 (by kernel_rfl) ?_;simp only[tA,tB,tC,tD];(repeat go_big_quiet_step (fail));refine wpQuiet_nil ?_;refine stage_any (fun y=>∃a m c,y=.slice a m c) (fun y w'=>Fr2 W (.slice ua um uc) L.length (flat tcell L) y fs.length (fcells fs) w') rfl rfl ⟨_,none,0,0,rfl⟩ (fun w' hw=> ?_) (fun y w' h=>InGW.of h.1) (fun y hy=> ?_)
       ·obtain⟨g1,g2,g3,g4⟩:=hw;obtain⟨v',w3,hr,r2,r3,r4⟩:=app_src (P:=Tryz.prog) w' 23 23 63 j0 (.agg #[.int .i64 0,.int .i64 0]) 2 16 Tryz.underlying23 hj0 hj1 hj2 hj3 rfl (by decide) _ 0 [] (row_base g3 (Nat.zero_le _)) v fs.length (fcells fs) (src_fields (hFW.out.mod g1)) (fcells_length fs) (fcells_oneCell fs) (by unfold maxLen;omega) (by omega);simp only[Nat.zero_add,List.nil_append]at r2;have hnew:∀x,v'.ownBlock=some x→W.heap.size≤x:=fun x hx=>by
         rcases r4 x hx with h|h
         ·exact(g3.lt x h).1
         ·exact Nat.le_trans g1.size h
        obtain⟨ya,ym,yc,rfl⟩:=row_src r2;refine⟨_,w3,exec_append _ _ 23 rfl rfl rfl hr,⟨ya,ym,yc,rfl⟩,g1.grown r3 (fun k hk=>.inr (g3.lt k hk).1),g2.kept r3 (apart_or4 g4),row_all r2 hnew,fun x hx hy=> ?_⟩;rcases r4 x hy with h|h
        ·exact g4 x hx h
        ·have:=(g2.lt x hx).2;omega
       obtain⟨ya,ym,yc,rfl⟩:=hy;simp only[Act.put,sA,sB,sC];refine stage_quiet 1 (by kernel_rfl) ?_;simp only[tA,tB,tC,tD];(repeat go_big_quiet_step (fail));refine wpQuiet_nil ?_;refine stage_alloc (fun s=>.slice (some ⟨s,0,none⟩) 1 1) (.cells #[.int .i64 len,.slice ya ym yc] 25 (0,0)) (fun s w'=>Fr2 W (.slice ua um uc) L.length (flat tcell L) (.slice ya ym yc) fs.length (fcells fs) w'∧w'.heap[s]? =some (.cells #[.int .i64 len,.slice ya ym yc] 25 (0,0))∧(Value.slice ua um uc).ownBlock≠some s) (by intro s s' h;simpa using h) rfl rfl (fun w' hw=> ?_) (fun w' hw=> ?_) (fun s w' h=>InGW.of h.1.1) (fun s=> ?_)
       ·kernel_rfl
       ·obtain⟨g1,g2,g3,g4⟩:=hw;exact⟨⟨g1.alloc _,row_mod g2 ((Mod.refl [] w').alloc _) (by simp),row_mod g3 ((Mod.refl [] w').alloc _) (by simp),g4⟩,at_alloc _ _,fun e=>by have:=(g2.lt _ e).2;omega⟩
       simp only[Act.put,sA,sB,sC];refine stage_any (fun u=>∃g cap,u=.slice (some ⟨g,0,none⟩) (L.length+1) cap) (fun u w'=>Fr2 W u (L.length+1) (flat tcell (L++[((len,fs),.slice ya ym yc)])) (.slice ya ym yc) fs.length (fcells fs) w') rfl rfl ⟨_,0,0,rfl⟩ (fun w' hw=> ?_) (fun u w' h=>InGW.of h.1) (fun u hu=> ?_)
       ·obtain⟨⟨g1,g2,g3,g4⟩,g5,g6⟩:=hw;obtain⟨v',w3,hr,r2,r3,r4⟩:=run_append_row (P:=Tryz.prog) w' 40 40 25 i0 (.agg #[.int .i64 0,.slice none 0 0]) 2 32 Tryz.underlying40 hi0 hi1 hi2 hi3 rfl (by decide) _ L.length (flat tcell L) (row_base g2 (Nat.zero_le _)) ⟨s,0,none⟩ 1 1 [.int .i64 len,.slice ya ym yc] rfl (fun j u hj=>by rw[add_at,Nat.zero_add,cells_of g5];simpa using hj) (by simp[Value.oneCell']) (by unfold maxLen;omega) (by omega);obtain⟨g',cap',rfl,_,_⟩:=row_pos r2 (by omega);have e:flat tcell L++[.int .i64 len,.slice ya ym yc]=flat tcell (L++[((len,fs),.slice ya ym yc)]):=by rw[flat_append,flat_one];rfl
        rw[e]at r2;have hnew:∀x,(Value.slice (some ⟨g',0,none⟩) (L.length+1) cap').ownBlock=some x→W.heap.size≤x:=fun x hx=>by
         rcases r4 x hx with h|h
         ·exact(g2.lt x h).1
         ·exact Nat.le_trans g1.size h
        refine⟨_,w3,exec_append _ _ 40 rfl rfl rfl hr,⟨g',cap',rfl⟩,g1.grown r3 (fun k hk=>.inr (g2.lt k hk).1),row_all r2 hnew,g3.kept r3 (apart_or4 fun x h1 h2=>g4 x h2 h1),fun x hx hy=> ?_⟩;rcases r4 x hx with h|h
        ·exact g4 x h hy
        ·have:=(g3.lt x hy).2;omega
       obtain⟨g,cap,rfl⟩:=hu;simp only[Act.put,sA,sB,sC];refine stage_quiet 2 (by kernel_rfl) ?_;simp only[tA,tB,tC,tD];(repeat go_big_quiet_step (fail));refine wpQuiet_nil ?_;refine stage_store (p:=⟨rb,0,none⟩) (u:=.slice (some ⟨g,0,none⟩) (L.length+1) cap) (fun w'=>w'.setCell ⟨rb,0,none⟩ (.slice (some ⟨g,0,none⟩) (L.length+1) cap)) rfl rfl (by kernel_rfl) rfl rfl rfl (fun w' hw=> ?_) (fun w' hw=> ?_)
       ·have c1:=cells_of (hw.1.at hb1H.out (by simp));have f1:=frozen_of (hw.1.at hb1H.out (by simp));clear k1 k2;go_simp
       ·obtain⟨g1,g2,g3,g4⟩:=hw;have hS3:=hSW.out.add (c:=Comp.all [fieldsC [((len,fs),.slice ya ym yc)],rowC (.slice (some ⟨g,0,none⟩) (L.length+1) cap) (L.length+1) 25 2 (flat tcell (L++[((len,fs),.slice ya ym yc)]))]) (f:=fblocks [((len,fs),.slice ya ym yc)]++((Value.slice (some ⟨g,0,none⟩) (L.length+1) cap).ownBlock.toList++[])) g1
         ⟨_,_,⟨fun p hp=>by rw[List.mem_singleton.1 hp];exact row_fields g3 rfl,rfl⟩,⟨_,_,⟨row_base g2 (Nat.zero_le _),rfl⟩,rfl,by simp,rfl⟩,fun x hx hy=>by
          obtain⟨p,hp,hx⟩:=mem_fblocks hx;rw[List.mem_singleton.1 hp]at hx;rw[List.append_nil,Option.mem_toList]at hy;exact g4 x hy hx,rfl⟩ (fun x hx=>by
          rcases List.mem_append.1 hx with hx|hx
          ·obtain⟨p,hp,hx⟩:=mem_fblocks hx;rw[List.mem_singleton.1 hp]at hx;exact(g3.lt x hx).1
          ·rw[List.append_nil,Option.mem_toList]at hx;exact(g2.lt x hx).1)
        have hS4:=scene_put 0 (scene_mergeD hS3) rfl 0 (.slice (some ⟨g,0,none⟩) (L.length+1) cap);have hcb:=cells_of (hS4.block 0 rfl);have hln:=fun ty w=>row_len (ty:=ty) Tryz.underlying40 (hS4.row 1 rfl) w
        have hS4H:=Lib.hid hS4;clear k1 k2 hS4 hS3 g1 g2 g3 g4;go_wp2_with fail;go_ret2;have hP:Scene f w (regP 42 rb (.slice (some ⟨g,0,none⟩) (L.length+1) cap) (L++[((len,fs),.slice ya ym yc)])) (w'.setCell ⟨rb,0,none⟩ (.slice (some ⟨g,0,none⟩) (L.length+1) cap)):=by
         unfold regP;rw[show(L++[((len,fs),Value.slice ya ym yc)]).length=L.length+1 by simp];exact hS4H.out
        refine reg_takes (by simp[←hlenH.out]) hP ?_ (fun t ht=> ?_) ?_
        ·rw[List.map_append,hLRH.out];rfl
        ·rcases List.mem_append.1 ht with h|h
         ·exact hokH.out t h
         ·rw[List.mem_singleton.1 h];exact heH.out
        ·have:=hlenH.out;rw[List.length_append];simp;omega
     case B=>
      simp only[Nat.reduceSub,List.eraseIdx_cons_succ,List.eraseIdx_cons_zero];refine stage_alloc (fun s=>.slice (some ⟨s,0,none⟩) 0 0) (.cells #[] 63 (0,0)) (fun s2 w'=>Mod [] W w'∧w'.ownsRow W.heap.size 63 2 (.slice (some ⟨s2,0,none⟩) 0 0) 0 []) (by intro s s' h;simpa using h) rfl rfl (fun w' hw=> ?_) (fun w' hw=>⟨hw.alloc _,row_fresh (at_alloc _ _) _ _ hw.size⟩) (fun s w' h=>InGW.of h.1) (fun s2=> ?_)
      ·kernel_rfl
      simp only[Act.put,sA,sB,sC];refine stage_alloc (fun s=>.slice (some ⟨s,0,none⟩) 0 0) (.cells #[] 25 (0,0)) (fun s w'=>Mod [] W w'∧(W.heap.size≤s∧w'.heap[s]? =some (.cells #[] 25 (0,0)))∧w'.ownsRow W.heap.size 63 2 (.slice (some ⟨s2,0,none⟩) 0 0) 0 []∧s≠s2) (by intro s s' h;simpa using h) rfl rfl (fun w' hw=> ?_) (fun w' hw=>⟨hw.1.alloc _,⟨hw.1.size,at_alloc _ _⟩,row_mod hw.2 ((Mod.refl [] w').alloc _) (by simp),by have:=(hw.2.lt s2 rfl).2;omega⟩) (fun s w' h=>InGW.of h.1) (fun s=> ?_)
      ·kernel_rfl
      simp only[Act.put,sA,sB,sC];refine stage_quiet 4 (by kernel_rfl) ?_;simp only[tA,tB,tC,tD];(repeat go_big_quiet_step (fail));refine wpQuiet_nil ?_;refine stage_any (fun u=>∃a m c,u=.slice a m c) (fun u w'=>Fr2 W u L.length (flat tcell L) (.slice (some ⟨s2,0,none⟩) 0 0) 0 [] w') rfl rfl ⟨_,none,0,0,rfl⟩ (fun w' hw=> ?_) (fun u w' h=>InGW.of h.1) (fun u hu=> ?_)
      ·obtain⟨g1,⟨g2,g3⟩,g4,g5⟩:=hw;have hfr:=row_fresh g3 0 2 (Nat.zero_le _);obtain⟨v',w3,hr,r2,r3,r4⟩:=app_src (P:=Tryz.prog) w' 40 40 25 i0 (.agg #[.int .i64 0,.slice none 0 0]) 2 32 Tryz.underlying40 hi0 hi1 hi2 hi3 rfl (by decide) _ 0 [] hfr sv L.length (flat tcell L) (src_row (row_mod hrowH.out g1 (by simp))) (flat_length tcell_length L) (htone.out w' g1) (by unfold maxLen;omega) (by omega);simp only[Nat.zero_add,List.nil_append]at r2;have hnew:∀x,v'.ownBlock=some x→W.heap.size≤x:=fun x hx=>by
        rcases r4 x hx with h|h
        ·have h':some s=some x:=h;have:=Option.some.inj h';omega
        ·exact Nat.le_trans (g1).size h
       have gm:Mod [] W w3:=(g1).grown r3 (fun k hk=>.inr (by have h':some s=some k:=hk;have:=Option.some.inj h';omega));obtain⟨ua,um,uc,rfl⟩:=row_srcT r2;refine⟨_,w3,exec_append _ _ 40 rfl rfl rfl hr,⟨ua,um,uc,rfl⟩,gm,row_all r2 hnew,g4.kept r3 (.inr fun e=>g5 (by simpa[Value.ownBlock]using e.symm)),fun x hx hy=> ?_⟩;have hy':some s2=some x:=hy;have hs2:=(g4.lt s2 rfl).2;rcases r4 x hx with h|h
       ·exact g5 (by have h':some s=some x:=h;rw[Option.some.inj h', ←Option.some.inj hy'])
       ·have:=Option.some.inj hy';omega
      simp only[Act.put,sA,sB,sC];obtain⟨ua,um,uc,rfl⟩:=hu;refine stage_quiet 2 (by kernel_rfl) ?_;simp only[tA,tB,tC,tD];(repeat go_big_quiet_step (fail));refine wpQuiet_nil ?_;refine stage_quiet 2 (by kernel_rfl) ?_;simp only[tA,tB,tC,tD];(repeat go_big_quiet_step (fail));refine wpQuiet_nil ?_;refine stage_any (fun y=>∃a m c,y=.slice a m c) (fun y w'=>Fr2 W (.slice ua um uc) L.length (flat tcell L) y fs.length (fcells fs) w') rfl rfl ⟨_,none,0,0,rfl⟩ (fun w' hw=> ?_) (fun y w' h=>InGW.of h.1) (fun y hy=> ?_)
      ·obtain⟨g1,g2,g3,g4⟩:=hw;obtain⟨v',w3,hr,r2,r3,r4⟩:=app_src (P:=Tryz.prog) w' 23 23 63 j0 (.agg #[.int .i64 0,.int .i64 0]) 2 16 Tryz.underlying23 hj0 hj1 hj2 hj3 rfl (by decide) _ 0 [] (row_base g3 (Nat.zero_le _)) v fs.length (fcells fs) (src_fields (hFW.out.mod g1)) (fcells_length fs) (fcells_oneCell fs) (by unfold maxLen;omega) (by omega);simp only[Nat.zero_add,List.nil_append]at r2;have hnew:∀x,v'.ownBlock=some x→W.heap.size≤x:=fun x hx=>by
        rcases r4 x hx with h|h
        ·exact(g3.lt x h).1
        ·exact Nat.le_trans g1.size h
       obtain⟨ya,ym,yc,rfl⟩:=row_src r2;refine⟨_,w3,exec_append _ _ 23 rfl rfl rfl hr,⟨ya,ym,yc,rfl⟩,g1.grown r3 (fun k hk=>.inr (g3.lt k hk).1),g2.kept r3 (apart_or4 g4),row_all r2 hnew,fun x hx hy=> ?_⟩;rcases r4 x hy with h|h
       ·exact g4 x hx h
       ·have:=(g2.lt x hx).2;omega
      obtain⟨ya,ym,yc,rfl⟩:=hy;simp only[Act.put,sA,sB,sC];refine stage_quiet 1 (by kernel_rfl) ?_;simp only[tA,tB,tC,tD];(repeat go_big_quiet_step (fail));refine wpQuiet_nil ?_;refine stage_alloc (fun s=>.slice (some ⟨s,0,none⟩) 1 1) (.cells #[.int .i64 len,.slice ya ym yc] 25 (0,0)) (fun s w'=>Fr2 W (.slice ua um uc) L.length (flat tcell L) (.slice ya ym yc) fs.length (fcells fs) w'∧w'.heap[s]? =some (.cells #[.int .i64 len,.slice ya ym yc] 25 (0,0))∧(Value.slice ua um uc).ownBlock≠some s) (by intro s s' h;simpa using h) rfl rfl (fun w' hw=> ?_) (fun w' hw=> ?_) (fun s w' h=>InGW.of h.1.1) (fun s=> ?_)
      ·kernel_rfl
      ·obtain⟨g1,g2,g3,g4⟩:=hw;exact⟨⟨g1.alloc _,row_mod g2 ((Mod.refl [] w').alloc _) (by simp),row_mod g3 ((Mod.refl [] w').alloc _) (by simp),g4⟩,at_alloc _ _,fun e=>by have:=(g2.lt _ e).2;omega⟩
      simp only[Act.put,sA,sB,sC];refine stage_any (fun u=>∃g cap,u=.slice (some ⟨g,0,none⟩) (L.length+1) cap) (fun u w'=>Fr2 W u (L.length+1) (flat tcell (L++[((len,fs),.slice ya ym yc)])) (.slice ya ym yc) fs.length (fcells fs) w') rfl rfl ⟨_,0,0,rfl⟩ (fun w' hw=> ?_) (fun u w' h=>InGW.of h.1) (fun u hu=> ?_)
      ·obtain⟨⟨g1,g2,g3,g4⟩,g5,g6⟩:=hw;obtain⟨v',w3,hr,r2,r3,r4⟩:=run_append_row (P:=Tryz.prog) w' 40 40 25 i0 (.agg #[.int .i64 0,.slice none 0 0]) 2 32 Tryz.underlying40 hi0 hi1 hi2 hi3 rfl (by decide) _ L.length (flat tcell L) (row_base g2 (Nat.zero_le _)) ⟨s,0,none⟩ 1 1 [.int .i64 len,.slice ya ym yc] rfl (fun j u hj=>by rw[add_at,Nat.zero_add,cells_of g5];simpa using hj) (by simp[Value.oneCell']) (by unfold maxLen;omega) (by omega);obtain⟨g',cap',rfl,_,_⟩:=row_pos r2 (by omega);have e:flat tcell L++[.int .i64 len,.slice ya ym yc]=flat tcell (L++[((len,fs),.slice ya ym yc)]):=by rw[flat_append,flat_one];rfl
       rw[e]at r2;have hnew:∀x,(Value.slice (some ⟨g',0,none⟩) (L.length+1) cap').ownBlock=some x→W.heap.size≤x:=fun x hx=>by
        rcases r4 x hx with h|h
        ·exact(g2.lt x h).1
        ·exact Nat.le_trans g1.size h
       refine⟨_,w3,exec_append _ _ 40 rfl rfl rfl hr,⟨g',cap',rfl⟩,g1.grown r3 (fun k hk=>.inr (g2.lt k hk).1),row_all r2 hnew,g3.kept r3 (apart_or4 fun x h1 h2=>g4 x h2 h1),fun x hx hy=> ?_⟩;rcases r4 x hx with h|h
       ·exact g4 x h hy
       ·have:=(g3.lt x hy).2;omega
      obtain⟨g,cap,rfl⟩:=hu;simp only[Act.put,sA,sB,sC];refine stage_quiet 2 (by kernel_rfl) ?_;simp only[tA,tB,tC,tD];(repeat go_big_quiet_step (fail));refine wpQuiet_nil ?_;refine stage_store (p:=⟨rb,0,none⟩) (u:=.slice (some ⟨g,0,none⟩) (L.length+1) cap) (fun w'=>w'.setCell ⟨rb,0,none⟩ (.slice (some ⟨g,0,none⟩) (L.length+1) cap)) rfl rfl (by kernel_rfl) rfl rfl rfl (fun w' hw=> ?_) (fun w' hw=> ?_)
      ·have c1:=cells_of (hw.1.at hb1H.out (by simp));have f1:=frozen_of (hw.1.at hb1H.out (by simp));clear k1 k2;go_simp
      ·obtain⟨g1,g2,g3,g4⟩:=hw;have hS3:=hSW.out.add (c:=Comp.all [fieldsC [((len,fs),.slice ya ym yc)],rowC (.slice (some ⟨g,0,none⟩) (L.length+1) cap) (L.length+1) 25 2 (flat tcell (L++[((len,fs),.slice ya ym yc)]))]) (f:=fblocks [((len,fs),.slice ya ym yc)]++((Value.slice (some ⟨g,0,none⟩) (L.length+1) cap).ownBlock.toList++[])) g1
        ⟨_,_,⟨fun p hp=>by rw[List.mem_singleton.1 hp];exact row_fields g3 rfl,rfl⟩,⟨_,_,⟨row_base g2 (Nat.zero_le _),rfl⟩,rfl,by simp,rfl⟩,fun x hx hy=>by
         obtain⟨p,hp,hx⟩:=mem_fblocks hx;rw[List.mem_singleton.1 hp]at hx;rw[List.append_nil,Option.mem_toList]at hy;exact g4 x hy hx,rfl⟩ (fun x hx=>by
         rcases List.mem_append.1 hx with hx|hx
         ·obtain⟨p,hp,hx⟩:=mem_fblocks hx;rw[List.mem_singleton.1 hp]at hx;exact(g3.lt x hx).1
         ·rw[List.append_nil,Option.mem_toList]at hx;exact(g2.lt x hx).1)
       have hS4:=scene_put 0 (scene_mergeD hS3) rfl 0 (.slice (some ⟨g,0,none⟩) (L.length+1) cap);have hcb:=cells_of (hS4.block 0 rfl);have hln:=fun ty w=>row_len (ty:=ty) Tryz.underlying40 (hS4.row 1 rfl) w
       have hS4H:=Lib.hid hS4;clear k1 k2 hS4 hS3 g1 g2 g3 g4;go_wp2_with fail;go_ret2;have hP:Scene f w (regP 42 rb (.slice (some ⟨g,0,none⟩) (L.length+1) cap) (L++[((len,fs),.slice ya ym yc)])) (w'.setCell ⟨rb,0,none⟩ (.slice (some ⟨g,0,none⟩) (L.length+1) cap)):=by
        unfold regP;rw[show(L++[((len,fs),Value.slice ya ym yc)]).length=L.length+1 by simp];exact hS4H.out
       refine reg_takes (by simp[←hlenH.out]) hP ?_ (fun t ht=> ?_) ?_
       ·rw[List.map_append,hLRH.out];rfl
       ·rcases List.mem_append.1 ht with h|h
        ·exact hokH.out t h
        ·rw[List.mem_singleton.1 h];exact heH.out
       ·have:=hlenH.out;rw[List.length_append];simp;omega
    ·have hl2:¬L.length<255:=by have:=hlenH.out;omega
     obtain⟨k1,k2⟩:=reg_full (t:=(len,fs)) heH.out hno hl;have eR:=hR'H.out.symm.trans k1;have eV:=hV'H.out.symm.trans k2;subst eR eV;clear hR'H hV'H;clear k1 k2 hno hb0 hb1 hrow;go_wp2_with fail;go_ret2;exact reg_takes rfl (hSW.out.erase 0) hLRH.out hokH.out h255
 ·obtain⟨k1,k2⟩:=reg_bad (R:=R) (t:=(len,fs)) he;have eR:=hR'H.out.symm.trans k1;have eV:=hV'H.out.symm.trans k2;subst eR eV;clear hR'H hV'H;have z:(errT len fs==0)=false:=by simp only[beq_eq_false_iff_ne];exact he
  clear he k1 k2;generalize errT len fs=q at*;go_wp2_with fail;go_ret2;exact reg_takes rfl (hS1.out.erase 0) hLRH.out hokH.out h255
end Go.Proofs.YteidpgdfocjdbaaGreat.Ty
