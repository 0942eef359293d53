/- Joined contracts. No conditions. -/
import Derived.Test.YtapbeogoojejmaaGreatCS
import Derived.Test.YtapbeogoojejmaaGreatC02
import Derived.Test.YtapbeogoojejmaaGreatC04
import Derived.Test.YtapbeogoojejmaaGreatC12
set_option maxHeartbeats 4000000
set_option maxRecDepth 10000
namespace Go.Proofs.YtapbeogoojejmaaGreat.Ty
open Go Go.RowKit Go.Stg
def regN (R:List Ty) (t:Ty):List Ty:=if errT t.1 t.2=0∧t∉R∧R.length<255 then R++[t]else R
def regTag (R:List Ty) (t:Ty):Int:=if errT t.1 t.2≠0 then 0 else if t∈R then R.idxOf t+1 else if R.length<255 then R.length+1 else 0
def regErr (R:List Ty) (t:Ty):Int:=if errT t.1 t.2≠0 then errT t.1 t.2 else if t∈R then 0 else if R.length<255 then 0 else 4
def regV (R:List Ty) (t:Ty):Value:=.tuple #[.int .i64 (regTag R t),.int .i64 (regErr R t)]
theorem reg_bad {R:List Ty} {t:Ty} (h:errT t.1 t.2≠0):regN R t=R∧regV R t=.tuple #[.int .i64 0,.int .i64 (errT t.1 t.2)]:=by
 simp[regN,regV,regTag,regErr,h]
theorem reg_known {R:List Ty} {t:Ty} (h:errT t.1 t.2=0) (hm:t∈R):regN R t=R∧regV R t=.tuple #[.int .i64 (R.idxOf t+1),.int .i64 0]:=by
 simp[regN,regV,regTag,regErr,h,hm]
theorem reg_full {R:List Ty} {t:Ty} (h:errT t.1 t.2=0) (hm:t∉R) (hl:¬R.length<255):regN R t=R∧regV R t=.tuple #[.int .i64 0,.int .i64 4]:=by
 simp[regN,regV,regTag,regErr,h,hm,hl]
theorem reg_new {R:List Ty} {t:Ty} (h:errT t.1 t.2=0) (hm:t∉R) (hl:R.length<255):regN R t=R++[t]∧regV R t=.tuple #[.int .i64 (R.length+1),.int .i64 0]:=by
 simp[regN,regV,regTag,regErr,h,hm,hl]
theorem reg_takes {T:TypeId} {rb:Nat} {R:List Ty} {sv v:Value} {L:List (Ty×Value)} {f:List Nat} {w w':World} {e:Ending} (he:e=.returned v) (h:Scene f w (regP T rb sv L) w') (h1:L.map (·.1)=R) (h2:∀t∈R,TyOk t) (h3:R.length≤255):Takes (regC T rb R) v w f e w':=by
 obtain⟨f',k1,k2,k3⟩:=h.done;exact⟨f',he,⟨sv,L,h1,h2,h3,k1⟩,k2,k3⟩
theorem reg_apart {T:TypeId} {rb:Nat} {sv:Value} {L:List (Ty×Value)} {w:World} {f:List Nat} (h:Hold (regP T rb sv L) w f):sv.ownBlock≠some rb:=by
 obtain⟨f1,g1,⟨_,e1⟩,⟨f2,g2,⟨_,e2⟩,_,_,e3⟩,hd,_⟩:=h;intro e;refine hd rb (by rw[e1];simp) ?_;rw[e3,e2,e];simp
theorem scene_merge {F:List Nat} {W w:World} {A L:List (Ty×Value)} {x b r:Comp} (h:Scene F W [fieldsC A,x,b,r,fieldsC L] w):Scene F W [b,r,fieldsC (L++A)] w:=by
 obtain⟨hm,fp,⟨f1,_,a1,⟨f2,_,a2,⟨f3,_,a3,⟨f4,_,a4,⟨f5,_,a5,rfl,d5,rfl⟩,d4,rfl⟩,d3,rfl⟩,d2,rfl⟩,d1,rfl⟩,hf⟩:=h;have d1':∀y∈f1,y∉f3∧y∉f4∧y∉f5:=fun y hy=>by
  have:=d1 y hy;simp only[List.mem_append,not_or]at this;exact⟨this.2.1,this.2.2.1,this.2.2.2.1⟩
 refine⟨hm,f3++(f4++((f5++f1)++[])),⟨f3,_,a3,⟨f4,_,a4,⟨f5++f1,[],⟨fun p hp=> ?_,?_⟩,rfl,by simp,rfl⟩,fun y hy hy2=> ?_,rfl⟩,fun y hy hy2=> ?_,rfl⟩,fun y hy=>hf y ?_⟩
 ·rcases List.mem_append.1 hp with hp|hp
  ·exact a5.1 p hp
  ·exact a1.1 p hp
 ·rw[a5.2,a1.2];simp[fblocks]
 ·simp only[List.mem_append,List.not_mem_nil,or_false]at hy2;rcases hy2 with h|h
  ·exact d4 y hy (by simp[h])
  ·exact(d1' y h).2.1 hy
 ·simp only[List.mem_append,List.not_mem_nil,or_false]at hy2;rcases hy2 with h|h|h
  ·exact d3 y hy (by simp[h])
  ·exact d3 y hy (by simp[h])
  ·exact(d1' y h).1 hy
 ·simp only[List.mem_append,List.not_mem_nil,or_false]at hy⊢;rcases hy with h|h|h|h
  ·exact .inr (.inr (.inl h))
  ·exact .inr (.inr (.inr (.inl h)))
  ·exact .inr (.inr (.inr (.inr h)))
  ·exact .inl h
theorem rowBelow0 {w:World} {v:Value} {n:Nat} {xs:List Value} (h:w.ownsRow 0 27 2 v n xs) {g:Nat} (hg:v.ownBlock=some g):g<w.heap.size:=(h.lt g hg).2
theorem scene_put {F:List Nat} {W w:World} {cs:List Comp} (i:Nat) {b:Nat} {xs:Array Value} {T:TypeId} {fr:Nat×Nat} (h:Scene F W cs w) (hi:cs[i]? =some (blockC b (.cells xs T fr))) (o:Nat) (v:Value):
  Scene F W (cs.set i (blockC b (.cells (xs.setIfInBounds o v) T fr))) (w.setCell ⟨b,o,none⟩ v):=by
 obtain⟨f,⟨h1,rfl⟩,hk⟩:=h.part i hi;exact hk _ [b] _ ⟨at_setCell h1,rfl⟩ ((Mod.refl _ _).setCell (.inl (by simp)) v) (fun x hx=>.inl hx)
theorem info_type:(Tryz.prog.info? 27).map (fun i=>(i.zero,i.size,i.bytes))=some (some (.agg #[.int .i64 0,.slice none 0 0]),2,32):=by kernel_rfl
theorem row_src {w:World} {v:Value} {n:Nat} {xs:List Value} {b:Nat} (h:w.ownsRow b 91 2 v n xs):∃a m c,v=.slice a m c:=by
 rcases row_cases h with⟨h,_⟩|⟨g,cap,h,_⟩
 ·exact⟨_,_,_,h⟩
 ·exact⟨_,_,_,h⟩
theorem register_ok {rb:Nat} {R:List Ty} {w:World} {f:List Nat} (h:(regC 170 rb R).on w f) (len:Int) (v:Value) (fs:List Fld) (hF:FieldsAt w v fs) (hn: -9223372036854775808≤len) (hn2:len≤9223372036854775807):
  Calls Tryz.prog 40 #[.pointer (some ⟨rb,0,none⟩),.agg #[.int .i64 len,v]] w (Takes (regC 170 rb (regN R (len,fs))) (regV R (len,fs)) w f):=by
 obtain⟨sv,L,hLR,hok,h255,hH⟩:=h;have hap:=reg_apart hH;have hrow0:=(Scene.start hH).row 1 rfl;have hbx:w.heap.size∉sv.ownBlock.toList:=fun hx=>by have:=rowBelow0 hrow0 (g:=w.heap.size) (by simpa using hx);omega
 have hbxH:=Lib.hid hbx;have hS:=(Scene.start hH).alloc (.cells #[.int .i64 len,v] 27);have hFA:=hF.mod ((Mod.refl [] w).alloc (.cells #[.int .i64 len,v] 27));have hC:=Lib.hid (check_ok len v fs _ hFA hn hn2);have hlenR:L.length=R.length:=by rw[←hLR,List.length_map]
 have hlenH:=Lib.hid hlenR;have hL255:L.length≤255:=by omega
 have hbox:=hS.block 0 rfl;have cbox:=cells_of hbox;have hSH:=Lib.hid hS;have hFH:=Lib.hid hFA;have hokH:=Lib.hid hok;have hLRH:=Lib.hid hLR;have hapH:=Lib.hid hap;have hw1:w.heap.size<(w.alloc (.cells #[.int .i64 len,v] 27)).heap.size:=by simp
 clear hS hFA hF hH hok hLR hap hbox hrow0 hbx hlenR;generalize hR':regN R (len,fs)=R';generalize hV':regV R (len,fs)=V';have hR'H:=Lib.hid hR';have hV'H:=Lib.hid hV';clear hR' hV';go_enter Tryz.func40,Tryz.ntmps40;go_wp2_with fail;generalize w.alloc (.cells #[.int .i64 len,v] 27)=W0 at*;refine hC.out.mono ?_;rintro e w1 ⟨rfl,hm1⟩;have hS1:=Lib.hid (hSH.out.then hm1);have hF1:=Lib.hid (hFH.out.mod hm1);have hsz:=hm1.size;clear hC hSH hFH hm1 cbox;have hc0:=cells_of (hS1.out.block 0 rfl);have hc1:=cells_of (hS1.out.block 1 rfl);by_cases he:errT len fs=0
 ·rw[he];have hI:=Lib.hid (indexf_ok len v fs w.heap.size w1 hF1.out (hS1.out.block 0 rfl) (hS1.out.row 2 rfl) (scene_fields 3 hS1.out rfl) (by omega));by_cases hm:(len,fs)∈R
  ·obtain⟨k1,k2⟩:=reg_known (t:=(len,fs)) he hm;have hi:idxT (L.map (·.1)) (len,fs)=R.idxOf (len,fs):=by rw[hLRH.out];exact if_pos hm
   rw[hi]at hI;have hq:=List.idxOf_lt_length_of_mem hm;have eR:=hR'H.out.symm.trans k1;have eV:=hV'H.out.symm.trans k2;subst eR eV;clear hR'H hV'H;clear he k1 k2 hi hm;generalize List.idxOf (len,fs) _=q at*;go_wp2_with fail;refine hI.out.mono ?_;rintro e w2 ⟨rfl,hm2⟩;clear hI;go_wp2_with fail;go_ret2;exact reg_takes rfl ((hS1.out.then hm2).erase 0) hLRH.out hokH.out h255
  ·have hi:idxT (L.map (·.1)) (len,fs)= -1:=by rw[hLRH.out];exact idxT_none hm
   rw[hi]at hI;have hmH:=Lib.hid hm;clear hi hm;by_cases hl:R.length<255
   ·have hl2:L.length<255:=by have:=hlenH.out;omega
    obtain⟨k1,k2⟩:=reg_new (t:=(len,fs)) he hmH.out hl;have eR:=hR'H.out.symm.trans k1;have eV:=hV'H.out.symm.trans k2;subst eR eV;clear hR'H hV'H;have hb:=TyOk.bounds (t:=(len,fs)) he;have heH:=Lib.hid he;clear he k1 k2;have hfl:fs.length≤32:=hb.2.2;clear hb;go_wp2_with fail;refine hI.out.mono ?_;rintro e w2 ⟨rfl,hm2⟩;have hln:=fun ty w=>row_len (ty:=ty) Tryz.underlying168 (hS1.out.row 2 rfl) w
    have hS2:=Lib.hid (hS1.out.then hm2);have hF2:=Lib.hid (hF1.out.mod hm2);have hb1:=hS2.out.block 1 rfl;have hb0:=hS2.out.block 0 rfl;have hc1:=cells_of hb1;have hsz2:=hm2.size;clear hI hS1 hF1 hm2;go_wp2_with fail;have k1:=GW.cells (S:=sv.ownBlock.toList) hb1 (by simpa using hapH.out);have k2:=GW.cells (S:=sv.ownBlock.toList) hb0 hbxH.out;clear hc1 hc0 hb1 hb0 hln;refine wp_region_stage (fun w'=>∃x:GW sv.ownBlock.toList w2,w'=x.1) (fun w'=>Mod [] w2 w') (by kernel_rfl) (by kernel_rfl) (fun _ h=>InGW.of (h.mono (by simp))) (Mod.refl _ _).drew ?_;refine stage_quiet 6 (by kernel_rfl) ?_;simp only[tA,tB,tC,tD];(repeat go_big_quiet_step (fail));refine wpQuiet_nil ?_;refine stage_call_any 105 #[.agg #[.int .i64 len,v]] (fun u=>∃a m c,u=.agg #[.int .i64 len,.slice a m c]) (fun u w'=>Mod [] w2 w'∧∃v',u=.agg #[.int .i64 len,v']∧w'.ownsRow w2.heap.size 91 2 v' fs.length (fcells fs)) rfl Tryz.call105 rfl rfl ⟨_,none,0,0,rfl⟩ (fun w' hw=>(copied_ok len v fs (by omega) w' (hF2.out.mod hw)).mono fun e w'' ⟨v',he,hr,hm⟩=>⟨_,he,?_,hw.nil_then hm,v',rfl,row_base hr hw.size⟩) (fun v w' h=>InGW.of (h.1.mono (by simp))) (fun u hu=> ?_)
    ·obtain⟨a,m,c,rfl⟩:=row_src hr;exact⟨a,m,c,rfl⟩
    obtain⟨a,m,c,rfl⟩:=hu;simp only[Act.put,sA,sB,sC];refine stage_alloc (fun s=>.slice (some ⟨s,0,none⟩) 1 1) (.cells #[.int .i64 len,.slice a m c] 27 (0,0)) (fun s w'=>Mod [] w2 w'∧w'.ownsRow w2.heap.size 91 2 (.slice a m c) fs.length (fcells fs)∧w'.heap[s]? =some (.cells #[.int .i64 len,.slice a m c] 27 (0,0))) (by intro s s' h;simpa using h) rfl rfl (fun w' hw=> ?_) (fun w' hw=> ?_) (fun s w' h=>InGW.of (h.1.mono (by simp))) (fun s=> ?_)
    ·kernel_rfl
    ·obtain⟨h1,v',h2,h3⟩:=hw;simp at h2;subst h2;exact⟨h1.alloc _,row_mod h3 ((Mod.refl [] w').alloc _) (by simp),at_alloc _ _⟩
    simp only[Act.put,sA,sB,sC];obtain⟨i0,hi0,hz0,hz1,hz2⟩:=info_parts info_type;refine stage_any (fun u=>∃g cap,u=.slice (some ⟨g,0,none⟩) (L.length+1) cap) (fun u w'=>Mod sv.ownBlock.toList w2 w'∧Scene f w [blockC rb (.cells #[sv] 170 (0,0)),rowC u (L.length+1) 27 2 (flat tcell (L++[((len,fs),.slice a m c)])),fieldsC (L++[((len,fs),.slice a m c)])] w') rfl rfl ⟨_,0,0,rfl⟩ (fun w' hw=> ?_) (fun u w' h=>InGW.of h.1) (fun u hu=> ?_)
    ·obtain⟨h1,h2,h3⟩:=hw;have hS3:=hS2.out.add (c:=fieldsC [((len,fs),.slice a m c)]) (f:=fblocks [((len,fs),.slice a m c)]) h1 ⟨fun p hp=>by rw[List.mem_singleton.1 hp];exact row_fields h2 rfl,rfl⟩ (fun x hx=>by
      obtain⟨p,hp,hx⟩:=mem_fblocks hx;rw[List.mem_singleton.1 hp]at hx;exact(h2.lt x hx).1)
     obtain⟨v',w3,hr,r2,r3,r4⟩:=run_append_row (P:=Tryz.prog) w' 168 168 27 i0 (.agg #[.int .i64 0,.slice none 0 0]) 2 32 Tryz.underlying168 hi0 hz0 hz1 hz2 rfl (by decide) sv L.length (flat tcell L) (hS3.row 3 rfl) ⟨s,0,none⟩ 1 1 [.int .i64 len,.slice a m c] rfl (fun j u hj=>by rw[add_at,Nat.zero_add,cells_of h3];simpa using hj) (by simp[Value.oneCell']) (by unfold maxLen;omega) (by omega);obtain⟨g',cap',rfl,_,_⟩:=row_pos r2 (by omega);have e:flat tcell L++[.int .i64 len,.slice a m c]=flat tcell (L++[((len,fs),.slice a m c)]):=by rw[flat_append,flat_one];rfl
     rw[e]at r2;exact⟨_,w3,exec_append _ _ 168 rfl rfl rfl hr,⟨g',cap',rfl⟩,(h1.mono (by simp)).grown r3 (fun k hk=>.inl (by simp[hk])),scene_merge (hS3.grown 3 rfl r2 r3 r4)⟩
    obtain⟨g,cap,rfl⟩:=hu;simp only[Act.put,sA,sB,sC];refine stage_quiet 2 (by kernel_rfl) ?_;simp only[tA,tB,tC,tD];(repeat go_big_quiet_step (fail));refine wpQuiet_nil ?_;refine stage_store (p:=⟨rb,0,none⟩) (u:=.slice (some ⟨g,0,none⟩) (L.length+1) cap) (fun w'=>w'.setCell ⟨rb,0,none⟩ (.slice (some ⟨g,0,none⟩) (L.length+1) cap)) rfl rfl (by kernel_rfl) rfl rfl rfl (fun w' hw=> ?_) (fun w' hw=> ?_)
    ·have c1:=cells_of (hw.2.block 0 rfl);have f1:=frozen_of (hw.2.block 0 rfl);clear k1 k2;go_simp
    ·have hS4:=scene_put 0 hw.2 rfl 0 (.slice (some ⟨g,0,none⟩) (L.length+1) cap);have hcb:=cells_of (hS4.block 0 rfl);have hln:=fun ty w=>row_len (ty:=ty) Tryz.underlying168 (hS4.row 1 rfl) w
     have hS4H:=Lib.hid hS4;clear k1 k2 hS4 hw;go_wp2_with fail;go_ret2;have hP:Scene f w (regP 170 rb (.slice (some ⟨g,0,none⟩) (L.length+1) cap) (L++[((len,fs),.slice a m c)])) (w'.setCell ⟨rb,0,none⟩ (.slice (some ⟨g,0,none⟩) (L.length+1) cap)):=by
      unfold regP;rw[show(L++[((len,fs),Value.slice a m c)]).length=L.length+1 by simp];exact hS4H.out
     refine reg_takes (by simp[←hlenH.out]) hP ?_ (fun t ht=> ?_) ?_
     ·rw[List.map_append,hLRH.out];rfl
     ·rcases List.mem_append.1 ht with h|h
      ·exact hokH.out t h
      ·rw[List.mem_singleton.1 h];exact heH.out
     ·rw[List.length_append];simp;omega
   ·have hl2:¬L.length<255:=by have:=hlenH.out;omega
    obtain⟨k1,k2⟩:=reg_full (t:=(len,fs)) he hmH.out hl;have eR:=hR'H.out.symm.trans k1;have eV:=hV'H.out.symm.trans k2;subst eR eV;clear hR'H hV'H;clear he k1 k2;go_wp2_with fail;refine hI.out.mono ?_;rintro e w2 ⟨rfl,hm2⟩;have hln:=fun ty w=>row_len (ty:=ty) Tryz.underlying168 (hS1.out.row 2 rfl) w
    have hS2:=Lib.hid (hS1.out.then hm2);have hc1:=cells_of (hS2.out.block 1 rfl);clear hI hS1 hm2;go_wp2_with fail;go_ret2;exact reg_takes rfl (hS2.out.erase 0) hLRH.out hokH.out h255
 ·obtain⟨k1,k2⟩:=reg_bad (R:=R) (t:=(len,fs)) he;have eR:=hR'H.out.symm.trans k1;have eV:=hV'H.out.symm.trans k2;subst eR eV;clear hR'H hV'H;have heH:=Lib.hid he;have z:(errT len fs==0)=false:=by simp only[beq_eq_false_iff_ne];exact he
  clear he k1 k2;generalize errT len fs=q at*;go_wp2_with fail;go_ret2;exact reg_takes rfl (hS1.out.erase 0) hLRH.out hokH.out h255
def Src (w:World) (v:Value) (m:Nat) (news:List Value):Prop:=
 (v=.slice none 0 0∧m=0∧news=[])∨∃a c,v=.slice (some a) m c∧∀j u,news[j]? =some u→w.cell? (a.add j)=some u
theorem src_row {w:World} {b sz n:Nat} {e:TypeId} {v:Value} {xs:List Value} (h:w.ownsRow b e sz v n xs):Src w v n xs:=by
 rcases row_cases h with⟨h1,h2,h3⟩|⟨g,cap,h1,_⟩
 ·exact .inl ⟨h1,h2,h3⟩
 ·exact .inr ⟨⟨g,0,none⟩,cap,h1,h.cells (g:=g) (by rw[h1];rfl)⟩
theorem app_src {P:Program} (w:World) (t ty e:TypeId) (i:TypeInfo) (z:Value) (size bytes:Nat) (ht:P.underlying t=some (.slice e)) (hi:P.info? e=some i) (hz:i.zero=some z)
  (hsize:i.size=size) (hby:i.bytes=bytes) (hzs:z.cells.size=size) (hsz:0<size) (v:Value) (n:Nat) (xs:List Value) (hown:w.ownsRow 0 e size v n xs)
  (u:Value) (m:Nat) (news:List Value) (hu:Src w u m news) (hl:news.length=m*size) (h1:∀u∈news,u.oneCell'=true) (h63:n+m≤maxLen) (hbytes:(n+m)*bytes≤140737488355328):
  ∃v' w',(Builtin.append_ #[t,t] ty #[v,u]).run P w=.ok v' w'∧w'.ownsRow 0 e size v' (n+m) (xs++news)∧w.grownBy w' v.ownBlock∧∀x,v'.ownBlock=some x→v.ownBlock=some x∨w.heap.size≤x:=by
 rcases hu with⟨rfl,rfl,rfl⟩|⟨a,c,rfl,hc⟩
 ·exact⟨v,w,run_append_owned_none w 0 t ty e i size ht hi v n xs hown,by simpa using hown,⟨rfl,rfl,rfl,Nat.le_refl _,fun _ _ _=>rfl⟩,fun x hx=>.inl hx⟩
 ·exact run_append_row (P:=P) w t ty e i z size bytes ht hi hz hsize hby hzs hsz v n xs hown a m c news hl hc h1 h63 hbytes
theorem new_ok (w:World):Calls Tryz.prog 94 #[] w fun e w'=>e=.returned (.pointer (some ⟨w.heap.size,0,none⟩))∧w'=w.alloc (.cells #[.slice none 0 0] 170):=by
 go_enter Tryz.func94,Tryz.ntmps94;go_wp2_with fail;go_ret;exact⟨rfl,rfl⟩
theorem reg_fresh (T:TypeId) {w:World} {b:Nat} (h:w.heap[b]? =some (.cells #[.slice none 0 0] T (0,0))):(regC T b []).on w ([b]++([]++([]++[]))):=
 ⟨.slice none 0 0,[],rfl,by simp,by simp,[b],_,⟨h,rfl⟩,⟨[],_,⟨World.ownsRow_nil _ _ _ _,rfl⟩,⟨[],[],⟨by simp,rfl⟩,rfl,by simp,rfl⟩,by simp,rfl⟩,by simp,rfl⟩
def lookT (R:List Ty) (tag:Int):Ty:=if 1≤tag∧tag≤R.length then R.getD (tag-1).toNat (0,[])else(0,[])
def lookE (R:List Ty) (tag:Int):Int:=if 1≤tag∧tag≤R.length then 0 else 20
def LookPost (R:List Ty) (tag:Int) (w:World) (e:Ending) (w':World):Prop:=∃v',e=.returned (.tuple #[.agg #[.int .i64 (lookT R tag).1,v'],.int .i64 (lookE R tag)])∧FieldsAt w' v' (lookT R tag).2∧Mod [] w w'
theorem look_bad {R:List Ty} {tag:Int} {w w':World} (h:¬(1≤tag∧tag≤R.length)) {e:Ending} (he:e=.returned (.tuple #[.agg #[.int .i64 0,.slice none 0 0],.int .i64 20])) (hm:Mod [] w w'):LookPost R tag w e w':=by
 unfold LookPost lookT lookE;rw[if_neg h,if_neg h];exact⟨_,he,.inl ⟨rfl,rfl⟩,hm⟩
theorem look_at {R:List Ty} {tag:Int} (h1:1≤tag) (h2:tag≤R.length) {L:List (Ty×Value)} (hL:L.map (·.1)=R) (hk:(tag-1).toNat<L.length):lookT R tag=L[(tag-1).toNat].1∧lookE R tag=0:=by
 unfold lookT lookE;rw[if_pos ⟨h1,h2⟩,if_pos ⟨h1,h2⟩];subst hL;rw[List.getD_eq_getElem?_getD,List.getElem?_map,List.getElem?_eq_getElem hk];exact⟨rfl,rfl⟩
theorem lookup_ok {rb:Nat} {R:List Ty} {w:World} {f:List Nat} (h:(regC 170 rb R).on w f) (tag:Int):
  Calls Tryz.prog 43 #[.pointer (some ⟨rb,0,none⟩),.int .i64 tag] w (LookPost R tag w):=by
 obtain⟨sv,L,hLR,hok,h255,hH⟩:=h;have hlenR:L.length=R.length:=by rw[←hLR,List.length_map]
 have hL255:L.length≤255:=by omega
 have hm0:=(Mod.refl [] w).alloc (.cells #[.int .i64 0,.slice none 0 0] 27);have hq0:=at_alloc w (.cells #[.int .i64 0,.slice none 0 0] 27);have hS0:=(Scene.start hH).then hm0
 have hlist:=Lib.hid (list_ok (hS0.block 0 rfl));have hln:=fun ty w=>row_len (ty:=ty) Tryz.underlying168 (hS0.row 1 rfl) w
 have hq0H:=Lib.hid hq0;have hm0H:=Lib.hid hm0;have hS0H:=Lib.hid hS0;have hokH:=Lib.hid hok;have hLRH:=Lib.hid hLR;have hwl:w.heap.size<(w.alloc (.cells #[.int .i64 0,.slice none 0 0] 27)).heap.size:=by simp
 clear hH hok hLR hq0 hS0 hm0;by_cases ht:1≤tag∧tag≤R.length
 ·obtain⟨h1,h2⟩:=ht;have hk:(tag-1).toNat<L.length:=by omega
  obtain⟨e1,e2⟩:=look_at h1 h2 hLRH.out hk;have e1H:=Lib.hid e1;have e2H:=Lib.hid e2;have hn:(((tag-1).toNat:Nat):Int)=tag-1:=by omega
  have hlenH:=Lib.hid hlenR;clear e1 e2 hlenR;generalize hkk:(tag-1).toNat=k at*;obtain⟨g,cap,rfl,hg,_,_⟩:=ty_cells (hS0H.out.row 1 rfl) rfl hk;have hkH:=Lib.hid hkk;have htk:tag=k+1:=by omega
  have hle:(k:Int)+1≤L.length:=by omega
  clear hkk hn h1 h2;subst htk;go_enter Tryz.func43,Tryz.ntmps43;go_wp2_with fail;refine hlist.out.mono ?_;rintro e w1 ⟨rfl,hm1⟩;have hS1:=Lib.hid (hS0H.out.then hm1);have hq1:=Lib.hid (hm1.at hq0H.out (by simp));have hm1:=Lib.hid (hm0H.out.nil_then hm1);have hF:=Lib.hid (scene_fields 2 hS1.out rfl _ (List.getElem_mem hk));have hok1:=hokH.out _ (by rw[←hLRH.out];exact List.mem_map_of_mem (List.getElem_mem hk));have hfl:=hok1.bounds.2.2;obtain⟨g',cap',e,_,r0,r1⟩:=ty_cells (hS1.out.row 1 rfl) rfl hk;simp at e;obtain⟨rfl,rfl⟩:=e;clear hlist hS0H hq0H hm0H hok1;go_wp2_with fail;refine(copied_ok _ _ _ (by omega) _ hF.out).mono ?_;rintro e w2 ⟨v',rfl,hr,hm2⟩;have hq2:=Lib.hid (hm2.at hq1.out (by simp));have hm3:=Lib.hid (hm1.out.nil_then hm2);have hlt:=hr.lt;obtain⟨va,vm,vc,rfl⟩:=row_src hr;have hrH:=Lib.hid hr;have hcq:=cells_of hq2.out;have hfq:=frozen_of hq2.out;have hw2:=lt_of hq1.out;clear hF r0 r1 hq1 hm1 hr hS1;go_wp2_with fail;have hq5:=(at_setCell (o:=1) (v:=.slice va vm vc) (at_setCell (o:=0) (v:=.int .i64 L[k].1.1) (hq2.out)));have hm5:=(((hm3.out).setCell (p:=⟨w.heap.size,0,none⟩) (.inr (Nat.le_refl _)) (.int .i64 L[k].1.1)).setCell (p:=⟨w.heap.size,1,none⟩) (.inr (Nat.le_refl _)) (.slice va vm vc));refine bodyPost_ret (ret_cell_tmp Tryz.results43 rfl rfl hq5 Tryz.underlying27 rfl (by kernel_rfl)) rfl ?_;unfold LookPost;rw[e1H.out,e2H.out];refine⟨.slice va vm vc,rfl,?_,hm5⟩;have hm6:=((Mod.refl [w.heap.size] w2).setCell (p:=⟨w.heap.size,0,none⟩) (.inl (by simp)) (.int .i64 L[k].1.1)).setCell (p:=⟨w.heap.size,1,none⟩) (.inl (by simp)) (.slice va vm vc);exact row_fields (row_mod hrH.out hm6 (fun g hg=>by have:=(hlt g hg).1;simp;omega)) rfl
 ·have htH:=Lib.hid ht;have hd:tag<1∨(¬tag<1∧(L.length:Int)<tag):=by omega
  clear ht hlenR;rcases hd with h1|⟨h1,h2⟩
  ·go_enter Tryz.func43,Tryz.ntmps43;go_wp2_with fail;refine hlist.out.mono ?_;rintro e w1 ⟨rfl,hm1⟩;have hq1:=Lib.hid (hm1.at hq0H.out (by simp));have hm1:=Lib.hid (hm0H.out.nil_then hm1);have hcq:=cells_of hq1.out;have hfq:=frozen_of hq1.out;clear hlist hS0H hq0H hm0H;go_wp2_with fail;have hq5:=(at_setCell (o:=1) (v:=.slice none 0 0) (at_setCell (o:=0) (v:=.int .i64 0) (hq1.out)));have hm5:=(((hm1.out).setCell (p:=⟨w.heap.size,0,none⟩) (.inr (Nat.le_refl _)) (.int .i64 0)).setCell (p:=⟨w.heap.size,1,none⟩) (.inr (Nat.le_refl _)) (.slice none 0 0));refine bodyPost_ret (ret_cell_tmp Tryz.results43 rfl rfl hq5 Tryz.underlying27 rfl (by kernel_rfl)) rfl ?_;exact look_bad htH.out rfl hm5
  ·go_enter Tryz.func43,Tryz.ntmps43;go_wp2_with fail;refine hlist.out.mono ?_;rintro e w1 ⟨rfl,hm1⟩;have hq1:=Lib.hid (hm1.at hq0H.out (by simp));have hm1:=Lib.hid (hm0H.out.nil_then hm1);have hcq:=cells_of hq1.out;have hfq:=frozen_of hq1.out;clear hlist hS0H hq0H hm0H;go_wp2_with fail;have hq5:=(at_setCell (o:=1) (v:=.slice none 0 0) (at_setCell (o:=0) (v:=.int .i64 0) (hq1.out)));have hm5:=(((hm1.out).setCell (p:=⟨w.heap.size,0,none⟩) (.inr (Nat.le_refl _)) (.int .i64 0)).setCell (p:=⟨w.heap.size,1,none⟩) (.inr (Nat.le_refl _)) (.slice none 0 0));refine bodyPost_ret (ret_cell_tmp Tryz.results43 rfl rfl hq5 Tryz.underlying27 rfl (by kernel_rfl)) rfl ?_;exact look_bad htH.out rfl hm5
end Go.Proofs.YtapbeogoojejmaaGreat.Ty
namespace Go.Proofs.YtapbeogoojejmaaGreat.Bw
open Go Go.RowKit Go.Stg
abbrev Bor:=(Int×Int)×(Int×Int)
def klt (a b:Int×Int):Bool:=decide (a.1<b.1)||(decide (a.1=b.1)&&decide (a.2<b.2))
theorem klt_iff (a b:Int×Int):klt a b=true↔a.1<b.1∨(a.1=b.1∧a.2<b.2):=by simp[klt]
theorem klt_irrefl (a:Int×Int):klt a a=false:=by simp[klt]
theorem klt_trans {a b c:Int×Int} (h:klt a b=true) (k:klt b c=true):klt a c=true:=by rw[klt_iff]at*;omega
theorem klt_ne {a b:Int×Int} (h:klt a b=true):a≠b:=fun e=>by subst e;rw[klt_irrefl]at h;cases h
theorem klt_asymm {a b:Int×Int} (h:klt a b=true):klt b a=false:=by
 cases hk:klt b a with
 |false=>rfl
 |true=>rw[klt_iff]at*;omega
theorem klt_total {a b:Int×Int} (hne:a≠b) (h:klt a b=false):klt b a=true:=by
 cases hk:klt b a with
 |true=>rfl
 |false=>
  exfalso;apply hne;simp only[klt,Bool.or_eq_false_iff,Bool.and_eq_false_iff,decide_eq_false_iff_not]at h hk;obtain⟨a1,a2⟩:=a;obtain⟨b1,b2⟩:=b;simp only[Prod.mk.injEq]at*;omega
def Srt (L:List Bor):Prop:=L.Pairwise fun a b=>klt a.1 b.1=true
theorem Srt.filter {L:List Bor} (h:Srt L) (p:Bor→Bool):Srt (L.filter p):=List.Pairwise.filter p h
theorem Srt.unique:∀ {L M:List Bor},Srt L→Srt M→L.Perm M→L=M
 | [],M,_,_,hp=>(List.Perm.nil_eq hp)
 |a::L,[],_,_,hp=>absurd hp.length_eq (by simp)
 |a::L,b::M,hL,hM,hp=>by
  have hL1:=List.pairwise_cons.1 hL;have hM1:=List.pairwise_cons.1 hM;have e:a=b:=by
   have ha:a∈b::M:=hp.subset (by simp);have hb:b∈a::L:=hp.symm.subset (by simp);rcases List.mem_cons.1 ha with h|h
   ·exact h
   ·rcases List.mem_cons.1 hb with h'|h'
    ·exact h'.symm
    ·have h1:=hM1.1 a h;have h2:=hL1.1 b h';have:=klt_asymm h1;rw[h2]at this;cases this
  subst e;rw[Srt.unique hL1.2 hM1.2 (List.Perm.cons_inv hp)]
theorem Srt.nodup {L:List Bor} (h:Srt L):(L.map (·.1)).Nodup:=by
 rw[List.Nodup,List.pairwise_map];exact h.imp fun h=>klt_ne h
def without (L:List Bor) (k:Int×Int):List Bor:=L.filter fun b=>decide (b.1≠k)
theorem without_mem {L:List Bor} {k:Int×Int} {b:Bor}:b∈without L k↔b∈L∧b.1≠k:=by simp[without]
theorem without_srt {L:List Bor} (h:Srt L) (k:Int×Int):Srt (without L k):=h.filter _
def ins (b:Bor):List Bor→List Bor
 | []=>[b]
 |a::l=>if klt b.1 a.1=true then b::a::l else a::ins b l
theorem ins_perm (b:Bor):∀L,(ins b L).Perm (b::L)
 | []=>List.Perm.refl _
 |a::l=>by
  unfold ins;split
  ·exact List.Perm.refl _
  ·exact((ins_perm b l).cons a).trans (List.Perm.swap b a l)
theorem ins_srt {b:Bor}:∀ {L:List Bor},Srt L→(∀a∈L,a.1≠b.1)→Srt (ins b L)
 | [],_,_=>by simp[ins,Srt]
 |a::l,h,hn=>by
  have h1:=List.pairwise_cons.1 h;unfold ins;split
  ·rename_i hk;refine List.pairwise_cons.2 ⟨fun x hx=> ?_,h⟩;rcases List.mem_cons.1 hx with rfl|hx
   ·exact hk
   ·exact klt_trans hk (h1.1 x hx)
  ·rename_i hk;refine List.pairwise_cons.2 ⟨fun x hx=> ?_,ins_srt h1.2 fun y hy=>hn y (List.mem_cons_of_mem _ hy)⟩;rcases List.mem_cons.1 ((ins_perm b l).subset hx)with rfl|hx
   ·exact klt_total (fun e=>hn a (by simp) e.symm) (by simpa using hk)
   ·exact h1.1 x hx
def putB (L:List Bor) (b:Bor):List Bor:=ins b (without L b.1)
theorem put_srt {L:List Bor} (h:Srt L) (b:Bor):Srt (putB L b):=ins_srt (without_srt h b.1) fun _ ha=>(without_mem.1 ha).2
theorem put_perm (L:List Bor) (b:Bor):(putB L b).Perm (b::without L b.1):=ins_perm _ _
theorem put_mem {L:List Bor} {a b:Bor}:a∈putB L b↔a=b∨(a∈L∧a.1≠b.1):=by
 rw[(put_perm L b).mem_iff,List.mem_cons,without_mem]
def getB (L:List Bor) (k:Int×Int):Option Bor:=L.find? fun b=>decide (b.1=k)
theorem getB_some {L:List Bor} {k:Int×Int} {b:Bor} (h:getB L k=some b):b∈L∧b.1=k:=by
 unfold getB at h;exact⟨List.mem_of_find?_eq_some h,by simpa using List.find?_some h⟩
theorem getB_none {L:List Bor} {k:Int×Int} (h:getB L k=none):∀b∈L,b.1≠k:=by
 unfold getB at h;rw[List.find?_eq_none]at h;simpa using h
theorem getB_of {L:List Bor} (h:(L.map (·.1)).Nodup) {b:Bor} (hb:b∈L):getB L b.1=some b:=by
 cases hg:getB L b.1 with
 |none=>exact absurd rfl (getB_none hg b hb)
 |some a=>
  obtain⟨ha,he⟩:=getB_some hg;congr 1;rw[List.Nodup,List.pairwise_map]at h;by_cases hab:a=b
  ·exact hab
  ·exfalso;obtain⟨i,hi,rfl⟩:=List.mem_iff_getElem.1 ha;obtain⟨j,hj,rfl⟩:=List.mem_iff_getElem.1 hb;rw[List.pairwise_iff_getElem]at h;rcases Nat.lt_trichotomy i j with hij|hij|hij
   ·exact h i j hi hj hij he
   ·subst hij;exact hab rfl
   ·exact h j i hj hi hij he.symm
theorem without_none {L:List Bor} {k:Int×Int} (h:getB L k=none):without L k=L:=by
 unfold without;rw[List.filter_eq_self];intro a ha;simpa using getB_none h a ha
def ofO (L:List Bor) (o:Int):List Bor:=L.filter fun b=>decide (b.1.1=o)
def heldH (L:List Bor) (h:Int):List Bor:=L.filter fun b=>decide (b.1.2=h)
structure LInv (N:Int) (L:List Bor):Prop where
 srt:Srt L
 one:∀b∈L,1≤b.2.2∧b.2.2≤N
 mode:∀b∈L,b.2.1=1∨b.2.1=2
 same:∀a∈L,∀b∈L,a.1.1=b.1.1→a.2.1=b.2.1
 excl:∀a∈L,a.2.1=2→a.2.2=1∧∀b∈L,b.1.1=a.1.1→b=a
theorem LInv.nil (N:Int):LInv N []:=⟨List.Pairwise.nil,by simp,by simp,by simp,by simp⟩
theorem LInv.up {N M:Int} {L:List Bor} (h:LInv N L) (hNM:N≤M):LInv M L:=⟨h.srt,fun b hb=>by have:=h.one b hb;omega,h.mode,h.same,h.excl⟩
theorem LInv.filter {N:Int} {L:List Bor} (h:LInv N L) (p:Bor→Bool):LInv N (L.filter p):=
 ⟨h.srt.filter p,fun b hb=>h.one b (List.mem_filter.1 hb).1,fun b hb=>h.mode b (List.mem_filter.1 hb).1,fun a ha b hb=>h.same a (List.mem_filter.1 ha).1 b (List.mem_filter.1 hb).1,
  fun a ha he=>⟨(h.excl a (List.mem_filter.1 ha).1 he).1,fun b hb e=>(h.excl a (List.mem_filter.1 ha).1 he).2 b (List.mem_filter.1 hb).1 e⟩⟩
def modeO (L:List Bor) (o:Int):Int:=match ofO L o with
 | []=>0
 |b::_=>b.2.1
def cntOf (L:List Bor) (k:Int×Int):Int:=match getB L k with
 |some b=>b.2.2
 |none=>0
def lendE (L:List Bor) (o m:Int):Int:=if m≠1∧m≠2 then 1 else if modeO L o=2∨(modeO L o≠0∧m=2)then 14 else 0
def lendL (L:List Bor) (o h m:Int):List Bor:=if lendE L o m=0 then putB L ((o,h),(m,cntOf L (o,h)+1))else L
def relE (L:List Bor) (k:Int×Int):Int:=match getB L k with
 |some _=>0
 |none=>13
def relL (L:List Bor) (k:Int×Int):List Bor:=match getB L k with
 |some b=>if b.2.2=1 then without L k else putB L (k,(b.2.1,b.2.2-1))
 |none=>L
theorem ofO_mem {L:List Bor} {o:Int} {b:Bor}:b∈ofO L o↔b∈L∧b.1.1=o:=by simp[ofO]
theorem modeO_of {N:Int} {L:List Bor} (h:LInv N L) {b:Bor} (hb:b∈L) {o:Int} (ho:b.1.1=o):modeO L o=b.2.1:=by
 unfold modeO;have hm:b∈ofO L o:=ofO_mem.2 ⟨hb,ho⟩
 cases hf:ofO L o with
 |nil=>rw[hf]at hm;cases hm
 |cons a l=>
  have ha:=ofO_mem.1 (show a∈ofO L o by rw[hf];simp);exact h.same a ha.1 b hb (by rw[ha.2,ho])
theorem modeO_zero {N:Int} {L:List Bor} (h:LInv N L) (o:Int):modeO L o=0↔ofO L o=[]:=by
 constructor
 ·intro h0
  cases hf:ofO L o with
  |nil=>rfl
  |cons a l=>
   have ha:=ofO_mem.1 (show a∈ofO L o by rw[hf];simp);have:=modeO_of h ha.1 ha.2;have:=h.mode a ha.1;omega
 ·intro h0;unfold modeO;rw[h0]
theorem modeO_range {N:Int} {L:List Bor} (h:LInv N L) (o:Int):modeO L o=0∨modeO L o=1∨modeO L o=2:=by
 cases hf:ofO L o with
 |nil=>left;unfold modeO;rw[hf]
 |cons a l=>
  have ha:=ofO_mem.1 (show a∈ofO L o by rw[hf];simp);have:=modeO_of h ha.1 ha.2;have:=h.mode a ha.1;omega
theorem cntOf_range {N:Int} {L:List Bor} (h:LInv N L) (h0:0≤N) (k:Int×Int):0≤cntOf L k∧cntOf L k≤N:=by
 unfold cntOf
 cases hg:getB L k with
 |none=>simp;exact h0
 |some b=>have:=h.one b (getB_some hg).1;simp only;omega
theorem put_inv {N M:Int} {L:List Bor} (h:LInv N L) (hNM:N≤M) {b:Bor} (h1:1≤b.2.2∧b.2.2≤M) (hm:b.2.1=1∨b.2.1=2) (hs:∀a∈L,a.1.1=b.1.1→a.1≠b.1→a.2.1=1∧b.2.1=1) (he:b.2.1=2→b.2.2=1):LInv M (putB L b):=by
 refine⟨put_srt h.srt b,fun a ha=> ?_,fun a ha=> ?_,fun a ha c hc e=> ?_,fun a ha e=> ?_⟩
 ·rcases put_mem.1 ha with rfl|⟨ha',_⟩
  ·exact h1
  ·have:=h.one a ha';omega
 ·rcases put_mem.1 ha with rfl|⟨ha',_⟩
  ·exact hm
  ·exact h.mode a ha'
 ·rcases put_mem.1 ha with rfl|⟨ha',na⟩<;>rcases put_mem.1 hc with rfl|⟨hc',nc⟩
  ·rfl
  ·have:=hs c hc' e.symm nc;omega
  ·have:=hs a ha' e na;omega
  ·exact h.same a ha' c hc' e
 ·rcases put_mem.1 ha with rfl|⟨ha',na⟩
  ·refine⟨he e,fun c hc e2=> ?_⟩;rcases put_mem.1 hc with rfl|⟨hc',nc⟩
   ·rfl
   ·have:=hs c hc' e2 nc;omega
  ·refine⟨(h.excl a ha' e).1,fun c hc e2=> ?_⟩;rcases put_mem.1 hc with rfl|⟨hc',nc⟩
   ·have:=hs a ha' e2.symm na;omega
   ·exact(h.excl a ha' e).2 c hc' e2
theorem lend_inv {N:Int} {L:List Bor} (h:LInv N L) (h0:0≤N) (o k m:Int):LInv (N+1) (lendL L o k m):=by
 unfold lendL;split
 ·rename_i he;unfold lendE at he;split at he
  ·cases he
  ·rename_i hm;split at he
   ·cases he
   ·rename_i hn;have hc:=cntOf_range h h0 (o,k);have hz:=modeO_zero h o;refine put_inv h (by omega) (by show 1≤cntOf L (o,k)+1∧cntOf L (o,k)+1≤N+1;omega) (by show m=1∨m=2;omega) (fun a ha e1 e2=> ?_) (fun e=> ?_)
    ·have hmo:=modeO_of h ha (o:=o) e1;have:=h.mode a ha;show a.2.1=1∧m=1;omega
    ·have e:m=2:=e;have hof:=hz.1 (by omega);show cntOf L (o,k)+1=1;unfold cntOf
     cases hg:getB L (o,k)with
     |none=>rfl
     |some b=>
      obtain⟨hb,hk⟩:=getB_some hg;have:b∈ofO L o:=ofO_mem.2 ⟨hb,by rw[hk]⟩;rw[hof]at this;cases this
 ·exact h.up (by omega)
theorem rel_inv {N:Int} {L:List Bor} (h:LInv N L) (k:Int×Int):LInv N (relL L k):=by
 unfold relL
 cases hg:getB L k with
 |none=>exact h
 |some b=>
  obtain⟨hb,hk⟩:=getB_some hg;have h1:=h.one b hb;simp only;split
  ·exact h.filter _
  ·rename_i hne;have hb2:b.2.1=1:=by
    rcases h.mode b hb with h'|h'
    ·exact h'
    ·exact absurd (h.excl b hb h').1 hne
   refine put_inv h (Int.le_refl _) (by show 1≤b.2.2-1∧b.2.2-1≤N;omega) (.inl hb2) (fun a ha e1 e2=> ?_) (fun e=> ?_)
   ·refine⟨?_,hb2⟩;rw[←hb2];exact h.same a ha b hb (by rw[e1,hk])
   ·have e:b.2.1=2:=e;omega
theorem getB_perm {L:List Bor} (hn:(L.map (·.1)).Nodup) {k:Int×Int} {b:Bor} (hg:getB L k=some b):L.Perm (b::without L k):=by
 obtain⟨hb,hk⟩:=getB_some hg;obtain⟨A,B,rfl⟩:=List.append_of_mem hb;have hno:∀a∈A++B,a.1≠k:=by
  rw[List.map_append,List.map_cons]at hn;have hn:=(List.perm_middle.nodup_iff).1 hn;rw[List.nodup_cons]at hn;intro a ha e;apply hn.1;rw[←List.map_append,hk, ←e];exact List.mem_map_of_mem ha
 have e:without (A++b::B) k=A++B:=by
  unfold without;rw[List.filter_append,List.filter_cons,if_neg (by simp[hk]),List.filter_eq_self.2 (fun a ha=>by simpa using hno a (List.mem_append_left _ ha)),List.filter_eq_self.2 (fun a ha=>by simpa using hno a (List.mem_append_right _ ha))]
 rw[e];exact List.perm_middle
theorem ofO_perm {L M:List Bor} (h:L.Perm M) (o:Int):(ofO L o).Perm (ofO M o):=h.filter _
theorem ofO_cons (b:Bor) (L:List Bor) (o:Int):(ofO (b::L) o).length=(if b.1.1=o then 1 else 0)+(ofO L o).length:=by
 unfold ofO;rw[List.filter_cons];by_cases h:b.1.1=o
 ·simp[h];omega
 ·simp[h]
end Go.Proofs.YtapbeogoojejmaaGreat.Bw
