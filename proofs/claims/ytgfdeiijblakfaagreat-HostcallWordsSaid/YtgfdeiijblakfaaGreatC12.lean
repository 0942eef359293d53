/- Joined contracts. No conditions. -/
import Derived.Laws.OwnMore
import Derived.Test.YtgfdeiijblakfaaGreatCS
import Derived.Test.YtgfdeiijblakfaaGreatC03
import Derived.Test.YtgfdeiijblakfaaGreatC11
set_option maxHeartbeats 4000000
set_option maxRecDepth 10000
namespace Go.Proofs.YtgfdeiijblakfaaGreat.Ty
open Go Go.RowKit Go.Stg
def regN (R:List Ty) (t:Ty):List Ty:=if errT t.1 t.2=0∧t∉R∧R.length<255 then R++[t]else R
def regTag (R:List Ty) (t:Ty):Int:=if errT t.1 t.2≠0 then 0 else if t∈R then R.idxOf t+1 else if R.length<255 then R.length+1 else 0
def regErr (R:List Ty) (t:Ty):Int:=if errT t.1 t.2≠0 then errT t.1 t.2 else if t∈R then 0 else if R.length<255 then 0 else 4
def regV (R:List Ty) (t:Ty):Value:=.tuple #[.int .i64 (regTag R t),.int .i64 (regErr R t)]
theorem reg_bad {R:List Ty} {t:Ty} (h:errT t.1 t.2≠0):regN R t=R∧regV R t=.tuple #[.int .i64 0,.int .i64 (errT t.1 t.2)]:=by
 simp[regN,regV,regTag,regErr,h]
theorem reg_known {R:List Ty} {t:Ty} (h:errT t.1 t.2=0) (hm:t∈R):regN R t=R∧regV R t=.tuple #[.int .i64 (R.idxOf t+1),.int .i64 0]:=by
 simp[regN,regV,regTag,regErr,h,hm]
theorem reg_full {R:List Ty} {t:Ty} (h:errT t.1 t.2=0) (hm:t∉R) (hl:¬R.length<255):regN R t=R∧regV R t=.tuple #[.int .i64 0,.int .i64 4]:=by
 simp[regN,regV,regTag,regErr,h,hm,hl]
theorem reg_new {R:List Ty} {t:Ty} (h:errT t.1 t.2=0) (hm:t∉R) (hl:R.length<255):regN R t=R++[t]∧regV R t=.tuple #[.int .i64 (R.length+1),.int .i64 0]:=by
 simp[regN,regV,regTag,regErr,h,hm,hl]
theorem reg_takes {T:TypeId} {rb:Nat} {R:List Ty} {sv v:Value} {L:List (Ty×Value)} {f:List Nat} {w w':World} {e:Ending} (he:e=.returned v) (h:Scene f w (regP T rb sv L) w') (h1:L.map (·.1)=R) (h2:∀t∈R,TyOk t) (h3:R.length≤255):Takes (regC T rb R) v w f e w':=by
 obtain⟨f',k1,k2,k3⟩:=h.done;exact⟨f',he,⟨sv,L,h1,h2,h3,k1⟩,k2,k3⟩
theorem reg_apart {T:TypeId} {rb:Nat} {sv:Value} {L:List (Ty×Value)} {w:World} {f:List Nat} (h:Hold (regP T rb sv L) w f):sv.ownBlock≠some rb:=by
 obtain⟨f1,g1,⟨_,e1⟩,⟨f2,g2,⟨_,e2⟩,_,_,e3⟩,hd,_⟩:=h;intro e;refine hd rb (by rw[e1];simp) ?_;rw[e3,e2,e];simp
theorem scene_merge {F:List Nat} {W w:World} {A L:List (Ty×Value)} {x b r:Comp} (h:Scene F W [fieldsC A,x,b,r,fieldsC L] w):Scene F W [b,r,fieldsC (L++A)] w:=by
 obtain⟨hm,fp,⟨f1,_,a1,⟨f2,_,a2,⟨f3,_,a3,⟨f4,_,a4,⟨f5,_,a5,rfl,d5,rfl⟩,d4,rfl⟩,d3,rfl⟩,d2,rfl⟩,d1,rfl⟩,hf⟩:=h;have d1':∀y∈f1,y∉f3∧y∉f4∧y∉f5:=fun y hy=>by
  have:=d1 y hy;simp only[List.mem_append,not_or]at this;exact⟨this.2.1,this.2.2.1,this.2.2.2.1⟩
 refine⟨hm,f3++(f4++((f5++f1)++[])),⟨f3,_,a3,⟨f4,_,a4,⟨f5++f1,[],⟨fun p hp=> ?_,?_⟩,rfl,by simp,rfl⟩,fun y hy hy2=> ?_,rfl⟩,fun y hy hy2=> ?_,rfl⟩,fun y hy=>hf y ?_⟩
 ·rcases List.mem_append.1 hp with hp|hp
  ·exact a5.1 p hp
  ·exact a1.1 p hp
 ·rw[a5.2,a1.2];simp[fblocks]
 ·simp only[List.mem_append,List.not_mem_nil,or_false]at hy2;rcases hy2 with h|h
  ·exact d4 y hy (by simp[h])
  ·exact(d1' y h).2.1 hy
 ·simp only[List.mem_append,List.not_mem_nil,or_false]at hy2;rcases hy2 with h|h|h
  ·exact d3 y hy (by simp[h])
  ·exact d3 y hy (by simp[h])
  ·exact(d1' y h).1 hy
 ·simp only[List.mem_append,List.not_mem_nil,or_false]at hy⊢;rcases hy with h|h|h|h
  ·exact .inr (.inr (.inl h))
  ·exact .inr (.inr (.inr (.inl h)))
  ·exact .inr (.inr (.inr (.inr h)))
  ·exact .inl h
theorem rowBelow0 {w:World} {v:Value} {n:Nat} {xs:List Value} (h:w.ownsRow 0 38 2 v n xs) {g:Nat} (hg:v.ownBlock=some g):g<w.heap.size:=(h.lt g hg).2
theorem scene_put {F:List Nat} {W w:World} {cs:List Comp} (i:Nat) {b:Nat} {xs:Array Value} {T:TypeId} {fr:Nat×Nat} (h:Scene F W cs w) (hi:cs[i]? =some (blockC b (.cells xs T fr))) (o:Nat) (v:Value):
  Scene F W (cs.set i (blockC b (.cells (xs.setIfInBounds o v) T fr))) (w.setCell ⟨b,o,none⟩ v):=by
 obtain⟨f,⟨h1,rfl⟩,hk⟩:=h.part i hi;exact hk _ [b] _ ⟨at_setCell h1,rfl⟩ ((Mod.refl _ _).setCell (.inl (by simp)) v) (fun x hx=>.inl hx)
theorem info_type:(Tryz.prog.info? 38).map (fun i=>(i.zero,i.size,i.bytes))=some (some (.agg #[.int .i64 0,.slice none 0 0]),2,32):=by kernel_rfl
theorem row_src {w:World} {v:Value} {n:Nat} {xs:List Value} {b:Nat} (h:w.ownsRow b 35 2 v n xs):∃a m c,v=.slice a m c:=by
 rcases row_cases h with⟨h,_⟩|⟨g,cap,h,_⟩
 ·exact⟨_,_,_,h⟩
 ·exact⟨_,_,_,h⟩
theorem register_ok {rb:Nat} {R:List Ty} {w:World} {f:List Nat} (h:(regC 87 rb R).on w f) (len:Int) (v:Value) (fs:List Fld) (hF:FieldsAt w v fs) (hn: -9223372036854775808≤len) (hn2:len≤9223372036854775807):
  Calls Tryz.prog 21 #[.pointer (some ⟨rb,0,none⟩),.agg #[.int .i64 len,v]] w (Takes (regC 87 rb (regN R (len,fs))) (regV R (len,fs)) w f):=by
 obtain⟨sv,L,hLR,hok,h255,hH⟩:=h;have hap:=reg_apart hH;have hrow0:=(Scene.start hH).row 1 rfl;have hbx:w.heap.size∉sv.ownBlock.toList:=fun hx=>by have:=rowBelow0 hrow0 (g:=w.heap.size) (by simpa using hx);omega
 have hbxH:=Lib.hid hbx;have hS:=(Scene.start hH).alloc (.cells #[.int .i64 len,v] 38);have hFA:=hF.mod ((Mod.refl [] w).alloc (.cells #[.int .i64 len,v] 38));have hC:=Lib.hid (check_ok len v fs _ hFA hn hn2);have hlenR:L.length=R.length:=by rw[←hLR,List.length_map]
 have hlenH:=Lib.hid hlenR;have hL255:L.length≤255:=by omega
 have hbox:=hS.block 0 rfl;have cbox:=cells_of hbox;have hSH:=Lib.hid hS;have hFH:=Lib.hid hFA;have hokH:=Lib.hid hok;have hLRH:=Lib.hid hLR;have hapH:=Lib.hid hap;have hw1:w.heap.size<(w.alloc (.cells #[.int .i64 len,v] 38)).heap.size:=by simp
 clear hS hFA hF hH hok hLR hap hbox hrow0 hbx hlenR;generalize hR':regN R (len,fs)=R';generalize hV':regV R (len,fs)=V';have hR'H:=Lib.hid hR';have hV'H:=Lib.hid hV';clear hR' hV';go_enter Tryz.func21,Tryz.ntmps21;go_wp2_with fail;generalize w.alloc (.cells #[.int .i64 len,v] 38)=W0 at*;refine hC.out.mono ?_;rintro e w1 ⟨rfl,hm1⟩;have hS1:=Lib.hid (hSH.out.then hm1);have hF1:=Lib.hid (hFH.out.mod hm1);have hsz:=hm1.size;clear hC hSH hFH hm1 cbox;have hc0:=cells_of (hS1.out.block 0 rfl);have hc1:=cells_of (hS1.out.block 1 rfl);by_cases he:errT len fs=0
 ·rw[he];have hI:=Lib.hid (indexf_ok len v fs w.heap.size w1 hF1.out (hS1.out.block 0 rfl) (hS1.out.row 2 rfl) (scene_fields 3 hS1.out rfl) (by omega));by_cases hm:(len,fs)∈R
  ·obtain⟨k1,k2⟩:=reg_known (t:=(len,fs)) he hm;have hi:idxT (L.map (·.1)) (len,fs)=R.idxOf (len,fs):=by rw[hLRH.out];exact if_pos hm
   rw[hi]at hI;have hq:=List.idxOf_lt_length_of_mem hm;have eR:=hR'H.out.symm.trans k1;have eV:=hV'H.out.symm.trans k2;subst eR eV;clear hR'H hV'H;clear he k1 k2 hi hm;generalize List.idxOf (len,fs) _=q at*;go_wp2_with fail;refine hI.out.mono ?_;rintro e w2 ⟨rfl,hm2⟩;clear hI;go_wp2_with fail;go_ret2;exact reg_takes rfl ((hS1.out.then hm2).erase 0) hLRH.out hokH.out h255
  ·have hi:idxT (L.map (·.1)) (len,fs)= -1:=by rw[hLRH.out];exact idxT_none hm
   rw[hi]at hI;have hmH:=Lib.hid hm;clear hi hm;by_cases hl:R.length<255
   ·have hl2:L.length<255:=by have:=hlenH.out;omega
    obtain⟨k1,k2⟩:=reg_new (t:=(len,fs)) he hmH.out hl;have eR:=hR'H.out.symm.trans k1;have eV:=hV'H.out.symm.trans k2;subst eR eV;clear hR'H hV'H;have hb:=TyOk.bounds (t:=(len,fs)) he;have heH:=Lib.hid he;clear he k1 k2;have hfl:fs.length≤32:=hb.2.2;clear hb;go_wp2_with fail;refine hI.out.mono ?_;rintro e w2 ⟨rfl,hm2⟩;have hln:=fun ty w=>row_len (ty:=ty) Tryz.underlying85 (hS1.out.row 2 rfl) w
    have hS2:=Lib.hid (hS1.out.then hm2);have hF2:=Lib.hid (hF1.out.mod hm2);have hb1:=hS2.out.block 1 rfl;have hb0:=hS2.out.block 0 rfl;have hc1:=cells_of hb1;have hsz2:=hm2.size;clear hI hS1 hF1 hm2;go_wp2_with fail;have k1:=GW.cells (S:=sv.ownBlock.toList) hb1 (by simpa using hapH.out);have k2:=GW.cells (S:=sv.ownBlock.toList) hb0 hbxH.out;clear hc1 hc0 hb1 hb0 hln;refine wp_region_stage (fun w'=>∃x:GW sv.ownBlock.toList w2,w'=x.1) (fun w'=>Mod [] w2 w') (by kernel_rfl) (by kernel_rfl) (fun _ h=>InGW.of (h.mono (by simp))) (Mod.refl _ _).drew ?_;refine stage_quiet 6 (by kernel_rfl) ?_;simp only[tA,tB,tC,tD];(repeat go_big_quiet_step (fail));refine wpQuiet_nil ?_;refine stage_call_any 35 #[.agg #[.int .i64 len,v]] (fun u=>∃a m c,u=.agg #[.int .i64 len,.slice a m c]) (fun u w'=>Mod [] w2 w'∧∃v',u=.agg #[.int .i64 len,v']∧w'.ownsRow w2.heap.size 35 2 v' fs.length (fcells fs)) rfl Tryz.call35 rfl rfl ⟨_,none,0,0,rfl⟩ (fun w' hw=>(copied_ok len v fs (by omega) w' (hF2.out.mod hw)).mono fun e w'' ⟨v',he,hr,hm⟩=>⟨_,he,?_,hw.nil_then hm,v',rfl,row_base hr hw.size⟩) (fun v w' h=>InGW.of (h.1.mono (by simp))) (fun u hu=> ?_)
    ·obtain⟨a,m,c,rfl⟩:=row_src hr;exact⟨a,m,c,rfl⟩
    obtain⟨a,m,c,rfl⟩:=hu;simp only[Act.put,sA,sB,sC];refine stage_alloc (fun s=>.slice (some ⟨s,0,none⟩) 1 1) (.cells #[.int .i64 len,.slice a m c] 38 (0,0)) (fun s w'=>Mod [] w2 w'∧w'.ownsRow w2.heap.size 35 2 (.slice a m c) fs.length (fcells fs)∧w'.heap[s]? =some (.cells #[.int .i64 len,.slice a m c] 38 (0,0))) (by intro s s' h;simpa using h) rfl rfl (fun w' hw=> ?_) (fun w' hw=> ?_) (fun s w' h=>InGW.of (h.1.mono (by simp))) (fun s=> ?_)
    ·kernel_rfl
    ·obtain⟨h1,v',h2,h3⟩:=hw;simp at h2;subst h2;exact⟨h1.alloc _,row_mod h3 ((Mod.refl [] w').alloc _) (by simp),at_alloc _ _⟩
    simp only[Act.put,sA,sB,sC];obtain⟨i0,hi0,hz0,hz1,hz2⟩:=info_parts info_type;refine stage_any (fun u=>∃g cap,u=.slice (some ⟨g,0,none⟩) (L.length+1) cap) (fun u w'=>Mod sv.ownBlock.toList w2 w'∧Scene f w [blockC rb (.cells #[sv] 87 (0,0)),rowC u (L.length+1) 38 2 (flat tcell (L++[((len,fs),.slice a m c)])),fieldsC (L++[((len,fs),.slice a m c)])] w') rfl rfl ⟨_,0,0,rfl⟩ (fun w' hw=> ?_) (fun u w' h=>InGW.of h.1) (fun u hu=> ?_)
    ·obtain⟨h1,h2,h3⟩:=hw;have hS3:=hS2.out.add (c:=fieldsC [((len,fs),.slice a m c)]) (f:=fblocks [((len,fs),.slice a m c)]) h1 ⟨fun p hp=>by rw[List.mem_singleton.1 hp];exact row_fields h2 rfl,rfl⟩ (fun x hx=>by
      obtain⟨p,hp,hx⟩:=mem_fblocks hx;rw[List.mem_singleton.1 hp]at hx;exact(h2.lt x hx).1)
     obtain⟨v',w3,hr,r2,r3,r4⟩:=run_append_row (P:=Tryz.prog) w' 85 85 38 i0 (.agg #[.int .i64 0,.slice none 0 0]) 2 32 Tryz.underlying85 hi0 hz0 hz1 hz2 rfl (by decide) sv L.length (flat tcell L) (hS3.row 3 rfl) ⟨s,0,none⟩ 1 1 [.int .i64 len,.slice a m c] rfl (fun j u hj=>by rw[add_at,Nat.zero_add,cells_of h3];simpa using hj) (by simp[Value.oneCell']) (by unfold maxLen;omega) (by omega);obtain⟨g',cap',rfl,_,_⟩:=row_pos r2 (by omega);have e:flat tcell L++[.int .i64 len,.slice a m c]=flat tcell (L++[((len,fs),.slice a m c)]):=by rw[flat_append,flat_one];rfl
     rw[e]at r2;exact⟨_,w3,exec_append _ _ 85 rfl rfl rfl hr,⟨g',cap',rfl⟩,(h1.mono (by simp)).grown r3 (fun k hk=>.inl (by simp[hk])),scene_merge (hS3.grown 3 rfl r2 r3 r4)⟩
    obtain⟨g,cap,rfl⟩:=hu;simp only[Act.put,sA,sB,sC];refine stage_quiet 2 (by kernel_rfl) ?_;simp only[tA,tB,tC,tD];(repeat go_big_quiet_step (fail));refine wpQuiet_nil ?_;refine stage_store (p:=⟨rb,0,none⟩) (u:=.slice (some ⟨g,0,none⟩) (L.length+1) cap) (fun w'=>w'.setCell ⟨rb,0,none⟩ (.slice (some ⟨g,0,none⟩) (L.length+1) cap)) rfl rfl (by kernel_rfl) rfl rfl rfl (fun w' hw=> ?_) (fun w' hw=> ?_)
    ·have c1:=cells_of (hw.2.block 0 rfl);have f1:=frozen_of (hw.2.block 0 rfl);clear k1 k2;go_simp
    ·have hS4:=scene_put 0 hw.2 rfl 0 (.slice (some ⟨g,0,none⟩) (L.length+1) cap);have hcb:=cells_of (hS4.block 0 rfl);have hln:=fun ty w=>row_len (ty:=ty) Tryz.underlying85 (hS4.row 1 rfl) w
     have hS4H:=Lib.hid hS4;clear k1 k2 hS4 hw;go_wp2_with fail;go_ret2;have hP:Scene f w (regP 87 rb (.slice (some ⟨g,0,none⟩) (L.length+1) cap) (L++[((len,fs),.slice a m c)])) (w'.setCell ⟨rb,0,none⟩ (.slice (some ⟨g,0,none⟩) (L.length+1) cap)):=by
      unfold regP;rw[show(L++[((len,fs),Value.slice a m c)]).length=L.length+1 by simp];exact hS4H.out
     refine reg_takes (by simp[←hlenH.out]) hP ?_ (fun t ht=> ?_) ?_
     ·rw[List.map_append,hLRH.out];rfl
     ·rcases List.mem_append.1 ht with h|h
      ·exact hokH.out t h
      ·rw[List.mem_singleton.1 h];exact heH.out
     ·rw[List.length_append];simp;omega
   ·have hl2:¬L.length<255:=by have:=hlenH.out;omega
    obtain⟨k1,k2⟩:=reg_full (t:=(len,fs)) he hmH.out hl;have eR:=hR'H.out.symm.trans k1;have eV:=hV'H.out.symm.trans k2;subst eR eV;clear hR'H hV'H;clear he k1 k2;go_wp2_with fail;refine hI.out.mono ?_;rintro e w2 ⟨rfl,hm2⟩;have hln:=fun ty w=>row_len (ty:=ty) Tryz.underlying85 (hS1.out.row 2 rfl) w
    have hS2:=Lib.hid (hS1.out.then hm2);have hc1:=cells_of (hS2.out.block 1 rfl);clear hI hS1 hm2;go_wp2_with fail;go_ret2;exact reg_takes rfl (hS2.out.erase 0) hLRH.out hokH.out h255
 ·obtain⟨k1,k2⟩:=reg_bad (R:=R) (t:=(len,fs)) he;have eR:=hR'H.out.symm.trans k1;have eV:=hV'H.out.symm.trans k2;subst eR eV;clear hR'H hV'H;have heH:=Lib.hid he;have z:(errT len fs==0)=false:=by simp only[beq_eq_false_iff_ne];exact he
  clear he k1 k2;generalize errT len fs=q at*;go_wp2_with fail;go_ret2;exact reg_takes rfl (hS1.out.erase 0) hLRH.out hokH.out h255
def Src (w:World) (v:Value) (m:Nat) (news:List Value):Prop:=
 (v=.slice none 0 0∧m=0∧news=[])∨∃a c,v=.slice (some a) m c∧∀j u,news[j]? =some u→w.cell? (a.add j)=some u
theorem src_row {w:World} {b sz n:Nat} {e:TypeId} {v:Value} {xs:List Value} (h:w.ownsRow b e sz v n xs):Src w v n xs:=by
 rcases row_cases h with⟨h1,h2,h3⟩|⟨g,cap,h1,_⟩
 ·exact .inl ⟨h1,h2,h3⟩
 ·exact .inr ⟨⟨g,0,none⟩,cap,h1,h.cells (g:=g) (by rw[h1];rfl)⟩
theorem app_src {P:Program} (w:World) (t ty e:TypeId) (i:TypeInfo) (z:Value) (size bytes:Nat) (ht:P.underlying t=some (.slice e)) (hi:P.info? e=some i) (hz:i.zero=some z)
  (hsize:i.size=size) (hby:i.bytes=bytes) (hzs:z.cells.size=size) (hsz:0<size) (v:Value) (n:Nat) (xs:List Value) (hown:w.ownsRow 0 e size v n xs)
  (u:Value) (m:Nat) (news:List Value) (hu:Src w u m news) (hl:news.length=m*size) (h1:∀u∈news,u.oneCell'=true) (h63:n+m≤maxLen) (hbytes:(n+m)*bytes≤140737488355328):
  ∃v' w',(Builtin.append_ #[t,t] ty #[v,u]).run P w=.ok v' w'∧w'.ownsRow 0 e size v' (n+m) (xs++news)∧w.grownBy w' v.ownBlock∧∀x,v'.ownBlock=some x→v.ownBlock=some x∨w.heap.size≤x:=by
 rcases hu with⟨rfl,rfl,rfl⟩|⟨a,c,rfl,hc⟩
 ·exact⟨v,w,run_append_owned_none w 0 t ty e i size ht hi v n xs hown,by simpa using hown,⟨rfl,rfl,rfl,Nat.le_refl _,fun _ _ _=>rfl⟩,fun x hx=>.inl hx⟩
 ·exact run_append_row (P:=P) w t ty e i z size bytes ht hi hz hsize hby hzs hsz v n xs hown a m c news hl hc h1 h63 hbytes
theorem new_ok (w:World):Calls Tryz.prog 13 #[] w fun e w'=>e=.returned (.pointer (some ⟨w.heap.size,0,none⟩))∧w'=w.alloc (.cells #[.slice none 0 0] 87):=by
 go_enter Tryz.func13,Tryz.ntmps13;go_wp2_with fail;go_ret;exact⟨rfl,rfl⟩
theorem reg_fresh (T:TypeId) {w:World} {b:Nat} (h:w.heap[b]? =some (.cells #[.slice none 0 0] T (0,0))):(regC T b []).on w ([b]++([]++([]++[]))):=
 ⟨.slice none 0 0,[],rfl,by simp,by simp,[b],_,⟨h,rfl⟩,⟨[],_,⟨World.ownsRow_nil _ _ _ _,rfl⟩,⟨[],[],⟨by simp,rfl⟩,rfl,by simp,rfl⟩,by simp,rfl⟩,by simp,rfl⟩
def lookT (R:List Ty) (tag:Int):Ty:=if 1≤tag∧tag≤R.length then R.getD (tag-1).toNat (0,[])else(0,[])
def lookE (R:List Ty) (tag:Int):Int:=if 1≤tag∧tag≤R.length then 0 else 20
def LookPost (R:List Ty) (tag:Int) (w:World) (e:Ending) (w':World):Prop:=∃v',e=.returned (.tuple #[.agg #[.int .i64 (lookT R tag).1,v'],.int .i64 (lookE R tag)])∧FieldsAt w' v' (lookT R tag).2∧Mod [] w w'
theorem look_bad {R:List Ty} {tag:Int} {w w':World} (h:¬(1≤tag∧tag≤R.length)) {e:Ending} (he:e=.returned (.tuple #[.agg #[.int .i64 0,.slice none 0 0],.int .i64 20])) (hm:Mod [] w w'):LookPost R tag w e w':=by
 unfold LookPost lookT lookE;rw[if_neg h,if_neg h];exact⟨_,he,.inl ⟨rfl,rfl⟩,hm⟩
theorem look_at {R:List Ty} {tag:Int} (h1:1≤tag) (h2:tag≤R.length) {L:List (Ty×Value)} (hL:L.map (·.1)=R) (hk:(tag-1).toNat<L.length):lookT R tag=L[(tag-1).toNat].1∧lookE R tag=0:=by
 unfold lookT lookE;rw[if_pos ⟨h1,h2⟩,if_pos ⟨h1,h2⟩];subst hL;rw[List.getD_eq_getElem?_getD,List.getElem?_map,List.getElem?_eq_getElem hk];exact⟨rfl,rfl⟩
theorem lookup_ok {rb:Nat} {R:List Ty} {w:World} {f:List Nat} (h:(regC 87 rb R).on w f) (tag:Int):
  Calls Tryz.prog 76 #[.pointer (some ⟨rb,0,none⟩),.int .i64 tag] w (LookPost R tag w):=by
 obtain⟨sv,L,hLR,hok,h255,hH⟩:=h;have hlenR:L.length=R.length:=by rw[←hLR,List.length_map]
 have hL255:L.length≤255:=by omega
 have hm0:=(Mod.refl [] w).alloc (.cells #[.int .i64 0,.slice none 0 0] 38);have hq0:=at_alloc w (.cells #[.int .i64 0,.slice none 0 0] 38);have hS0:=(Scene.start hH).then hm0
 have hlist:=Lib.hid (list_ok (hS0.block 0 rfl));have hln:=fun ty w=>row_len (ty:=ty) Tryz.underlying85 (hS0.row 1 rfl) w
 have hq0H:=Lib.hid hq0;have hm0H:=Lib.hid hm0;have hS0H:=Lib.hid hS0;have hokH:=Lib.hid hok;have hLRH:=Lib.hid hLR;have hwl:w.heap.size<(w.alloc (.cells #[.int .i64 0,.slice none 0 0] 38)).heap.size:=by simp
 clear hH hok hLR hq0 hS0 hm0;by_cases ht:1≤tag∧tag≤R.length
 ·obtain⟨h1,h2⟩:=ht;have hk:(tag-1).toNat<L.length:=by omega
  obtain⟨e1,e2⟩:=look_at h1 h2 hLRH.out hk;have e1H:=Lib.hid e1;have e2H:=Lib.hid e2;have hn:(((tag-1).toNat:Nat):Int)=tag-1:=by omega
  have hlenH:=Lib.hid hlenR;clear e1 e2 hlenR;generalize hkk:(tag-1).toNat=k at*;obtain⟨g,cap,rfl,hg,_,_⟩:=ty_cells (hS0H.out.row 1 rfl) rfl hk;have hkH:=Lib.hid hkk;have htk:tag=k+1:=by omega
  have hle:(k:Int)+1≤L.length:=by omega
  clear hkk hn h1 h2;subst htk;go_enter Tryz.func76,Tryz.ntmps76;go_wp2_with fail;refine hlist.out.mono ?_;rintro e w1 ⟨rfl,hm1⟩;have hS1:=Lib.hid (hS0H.out.then hm1);have hq1:=Lib.hid (hm1.at hq0H.out (by simp));have hm1:=Lib.hid (hm0H.out.nil_then hm1);have hF:=Lib.hid (scene_fields 2 hS1.out rfl _ (List.getElem_mem hk));have hok1:=hokH.out _ (by rw[←hLRH.out];exact List.mem_map_of_mem (List.getElem_mem hk));have hfl:=hok1.bounds.2.2;obtain⟨g',cap',e,_,r0,r1⟩:=ty_cells (hS1.out.row 1 rfl) rfl hk;simp at e;obtain⟨rfl,rfl⟩:=e;clear hlist hS0H hq0H hm0H hok1;go_wp2_with fail;refine(copied_ok _ _ _ (by omega) _ hF.out).mono ?_;rintro e w2 ⟨v',rfl,hr,hm2⟩;have hq2:=Lib.hid (hm2.at hq1.out (by simp));have hm3:=Lib.hid (hm1.out.nil_then hm2);have hlt:=hr.lt;obtain⟨va,vm,vc,rfl⟩:=row_src hr;have hrH:=Lib.hid hr;have hcq:=cells_of hq2.out;have hfq:=frozen_of hq2.out;have hw2:=lt_of hq1.out;clear hF r0 r1 hq1 hm1 hr hS1;go_wp2_with fail;have hq5:=(at_setCell (o:=1) (v:=.slice va vm vc) (at_setCell (o:=0) (v:=.int .i64 L[k].1.1) (hq2.out)));have hm5:=(((hm3.out).setCell (p:=⟨w.heap.size,0,none⟩) (.inr (Nat.le_refl _)) (.int .i64 L[k].1.1)).setCell (p:=⟨w.heap.size,1,none⟩) (.inr (Nat.le_refl _)) (.slice va vm vc));refine bodyPost_ret (ret_cell_tmp Tryz.results76 rfl rfl hq5 Tryz.underlying38 rfl (by kernel_rfl)) rfl ?_;unfold LookPost;rw[e1H.out,e2H.out];refine⟨.slice va vm vc,rfl,?_,hm5⟩;have hm6:=((Mod.refl [w.heap.size] w2).setCell (p:=⟨w.heap.size,0,none⟩) (.inl (by simp)) (.int .i64 L[k].1.1)).setCell (p:=⟨w.heap.size,1,none⟩) (.inl (by simp)) (.slice va vm vc);exact row_fields (row_mod hrH.out hm6 (fun g hg=>by have:=(hlt g hg).1;simp;omega)) rfl
 ·have htH:=Lib.hid ht;have hd:tag<1∨(¬tag<1∧(L.length:Int)<tag):=by omega
  clear ht hlenR;rcases hd with h1|⟨h1,h2⟩
  ·go_enter Tryz.func76,Tryz.ntmps76;go_wp2_with fail;refine hlist.out.mono ?_;rintro e w1 ⟨rfl,hm1⟩;have hq1:=Lib.hid (hm1.at hq0H.out (by simp));have hm1:=Lib.hid (hm0H.out.nil_then hm1);have hcq:=cells_of hq1.out;have hfq:=frozen_of hq1.out;clear hlist hS0H hq0H hm0H;go_wp2_with fail;have hq5:=(at_setCell (o:=1) (v:=.slice none 0 0) (at_setCell (o:=0) (v:=.int .i64 0) (hq1.out)));have hm5:=(((hm1.out).setCell (p:=⟨w.heap.size,0,none⟩) (.inr (Nat.le_refl _)) (.int .i64 0)).setCell (p:=⟨w.heap.size,1,none⟩) (.inr (Nat.le_refl _)) (.slice none 0 0));refine bodyPost_ret (ret_cell_tmp Tryz.results76 rfl rfl hq5 Tryz.underlying38 rfl (by kernel_rfl)) rfl ?_;exact look_bad htH.out rfl hm5
  ·go_enter Tryz.func76,Tryz.ntmps76;go_wp2_with fail;refine hlist.out.mono ?_;rintro e w1 ⟨rfl,hm1⟩;have hq1:=Lib.hid (hm1.at hq0H.out (by simp));have hm1:=Lib.hid (hm0H.out.nil_then hm1);have hcq:=cells_of hq1.out;have hfq:=frozen_of hq1.out;clear hlist hS0H hq0H hm0H;go_wp2_with fail;have hq5:=(at_setCell (o:=1) (v:=.slice none 0 0) (at_setCell (o:=0) (v:=.int .i64 0) (hq1.out)));have hm5:=(((hm1.out).setCell (p:=⟨w.heap.size,0,none⟩) (.inr (Nat.le_refl _)) (.int .i64 0)).setCell (p:=⟨w.heap.size,1,none⟩) (.inr (Nat.le_refl _)) (.slice none 0 0));refine bodyPost_ret (ret_cell_tmp Tryz.results76 rfl rfl hq5 Tryz.underlying38 rfl (by kernel_rfl)) rfl ?_;exact look_bad htH.out rfl hm5
end Go.Proofs.YtgfdeiijblakfaaGreat.Ty
