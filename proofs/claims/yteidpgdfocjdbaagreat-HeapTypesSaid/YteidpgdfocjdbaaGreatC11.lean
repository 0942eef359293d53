/- Joined contracts. No conditions. -/
import Derived.Test.YteidpgdfocjdbaaGreatCS
import Derived.Test.YteidpgdfocjdbaaGreatC10
set_option maxHeartbeats 4000000
set_option maxRecDepth 10000
namespace Go.Proofs.YteidpgdfocjdbaaGreat.Ty
open Go Go.RowKit Go.Stg
theorem rcheck_ok (len:Int) (v:Value) (fs:List Fld) (w:World) (h:FieldsAt w v fs) (hn: -9223372036854775808≤len) (hn2:len≤9223372036854775807):
  Calls Tryz.prog 31 #[.agg #[.int .i64 len,v]] w fun e w'=>e=.returned (.int .i64 (errT len fs))∧Mod [] w w':=by
 have q0:=at_alloc w (.cells #[.int .i64 len,v] 25);have hm0:=(Mod.refl [] w).alloc (.cells #[.int .i64 len,v] 25);have h':=h.mod hm0;have hln:=fun ty w=>h.len ty w
 have hsm:=h.small;have hE:errT len fs=if len<0 then 3 else if 65536<len then 4 else if badT len fs then 3 else if 32<fs.length then 4 else if firstErr fs≠0 then firstErr fs else if 65536<sizeT len fs then 4 else 0:=rfl
 by_cases t1:len<0
 ·rw[if_pos t1]at hE;rw[hE];clear hE h h';go_enter Tryz.func31,Tryz.ntmps31;go_wp2_with fail;go_ret;exact⟨rfl,hm0⟩
 ·rw[if_neg t1]at hE;by_cases t2:65536<len
  ·rw[if_pos t2]at hE;rw[hE];clear hE h h';go_enter Tryz.func31,Tryz.ntmps31;go_wp2_with fail;go_ret;exact⟨rfl,hm0⟩
  ·rw[if_neg t2]at hE;by_cases t3:badT len fs
   ·rw[if_pos t3]at hE;rw[hE];clear hE h h';rcases t3 with⟨t3,t4⟩|⟨t3,t4⟩
    ·subst t3;rw[t4]at hln;go_enter Tryz.func31,Tryz.ntmps31;go_wp2_with fail;go_ret;exact⟨rfl,hm0⟩
    ·have t5:¬(len=0):=by omega
     go_enter Tryz.func31,Tryz.ntmps31;go_wp2_with fail;go_ret;exact⟨rfl,hm0⟩
   ·rw[if_neg t3]at hE;by_cases t4:32<fs.length
    ·rw[if_pos t4]at hE;rw[hE];clear hE h h';by_cases t5:len=0
     ·subst t5;have t6:((fs.length:Int)==0)=false:=by simp only[beq_eq_false_iff_ne];omega
      clear t3;go_enter Tryz.func31,Tryz.ntmps31;go_wp2_with fail;go_ret;exact⟨rfl,hm0⟩
     ·exact absurd (.inr ⟨by omega,by omega⟩) t3
    ·rw[if_neg t4]at hE;have hEH:=Lib.hid hE;clear hE;by_cases t5:len=0
     ·subst t5;have t6:((fs.length:Int)==0)=false:=by
       simp only[beq_eq_false_iff_ne];intro e;exact t3 (.inl ⟨rfl,by omega⟩)
      have t7:(0:Int)<0→fs.length=1:=fun h=>absurd h (by omega)
      clear t3;go_enter Tryz.func31,Tryz.ntmps31;go_wp2_with fail;have hT:=Lib.hid (t7);clear t6;generalize w.alloc (.cells #[.int .i64 (0),v] 25)=W at*;go_loopw [3] (fun i wr=>∃k:Nat,k≤fs.length∧i=.int .i64 k∧Mod [] W wr∧Good (fs.take k)) (fun i _=>fs.length-(intOf i).toNat)
      case atStart=>exact⟨0,by omega,rfl,Mod.refl _ _,by simp[Good]⟩
      case round=>
       obtain⟨k,hk,rfl,hm,hgk⟩:=hrel;have cb:=cells_of (hm.at q0 (by simp));by_cases hlt:k<fs.length
       ·rcases h' with⟨_,rfl⟩|⟨sb,so,cap,rfl,g2,g3,g4⟩
        ·simp at hlt
        ·have c1:=(cell_mod hm g2 (by simp)).trans (g4 k hlt).1;have c2:=(cell_mod hm g2 (by simp)).trans (g4 k hlt).2;have hfe:=firstErr_at hlt hgk;have hgs:=good_snoc hlt hgk;clear g4 hgk h;generalize fs[k]=f at*;obtain⟨fk,fc⟩:=f;simp only at c1 c2;by_cases a1:fk<1
         ·have he:errF (fk,fc)=8:=by simp[errF,a1]
          have hfe:=hfe (by rw[he];decide);rw[he]at hfe;clear hgs he;go_wp2_with fail;go_ret;refine⟨?_,hm0.nil_then (hm.alloc _)⟩;rw[hEH.out,hfe,if_pos (by decide)];rfl
         ·by_cases a2:6<fk
          ·have he:errF (fk,fc)=8:=by simp[errF,a2]
           have hfe:=hfe (by rw[he];decide);rw[he]at hfe;clear hgs he;go_wp2_with fail;go_ret;refine⟨?_,hm0.nil_then (hm.alloc _)⟩;rw[hEH.out,hfe,if_pos (by decide)];rfl
          ·by_cases a3:fk=6
           ·subst a3;by_cases a4:fc<1
            ·have he:errF (6,fc)=3:=by simp[errF,a4]
             have hfe:=hfe (by rw[he];decide);rw[he]at hfe;clear hgs he;go_wp2_with fail;go_ret;refine⟨?_,hm0.nil_then (hm.alloc _)⟩;rw[hEH.out,hfe,if_pos (by decide)];rfl
            ·by_cases a5:65536<fc
             ·have he:errF (6,fc)=4:=by simp[errF,a4,a5]
              have hfe:=hfe (by rw[he];decide);rw[he]at hfe;clear hgs he;go_wp2_with fail;go_ret;refine⟨?_,hm0.nil_then (hm.alloc _)⟩;rw[hEH.out,hfe,if_pos (by decide)];rfl
             ·have he:errF (6,fc)=0:=by simp[errF,a4,a5]
              have hgs:=hgs he;clear hfe he;go_wp2_with fail;go_roundw
              case rel=>exact⟨k+1,by omega,by go_num,hm.alloc _,hgs⟩
              case measure=>simp[intOf];omega
           ·by_cases a4:fc=0
            ·subst a4;have he:errF (fk,0)=0:=by simp[errF,a1,a2,a3]
             have hgs:=hgs he;clear hfe he;go_wp2_with fail;go_roundw
             case rel=>exact⟨k+1,by omega,by go_num,hm.alloc _,hgs⟩
             case measure=>simp[intOf];omega
            ·have he:errF (fk,fc)=3:=by simp[errF,a1,a2,a3,a4]
             have a5:(fc != 0)=true:=by simpa using a4
             have a6:(fc==0)=false:=by simpa using a4
             have hfe:=hfe (by rw[he];decide);rw[he]at hfe;clear hgs he;go_wp2_with fail;go_ret;refine⟨?_,hm0.nil_then (hm.alloc _)⟩;rw[hEH.out,hfe,if_pos (by decide)];rfl
       ·obtain rfl:k=fs.length:=by omega
        rw[List.take_length]at hgk;have hr:=hm.at q0 (by simp);have hfirst:=firstErr_good hgk;clear h;have hP:=Lib.hid (rplaces_ok v fs _ (h'.mod hm) hgk (by omega));have hs0:sizeT 0 fs=sizeR fs:=by simp[sizeT]
        go_wp2_with fail;refine hP.out.mono ?_;rintro e w1 ⟨pv,rfl,hm1,_⟩;rw[hs0]at hEH;by_cases hbig:65536<sizeR fs
        ·go_wp2_with fail;go_ret;refine⟨?_,(hm0.nil_then hm).nil_then hm1⟩;rw[hEH.out,hfirst,if_neg (by simp),if_pos hbig];rfl
        ·go_wp2_with fail;go_ret;refine⟨?_,(hm0.nil_then hm).nil_then hm1⟩;rw[hEH.out,hfirst,if_neg (by simp),if_neg (by omega)];rfl
     ·have t60:fs.length=1:=by
       by_cases e:fs.length=1
       ·exact e
       ·exact absurd (.inr ⟨by omega,e⟩) t3
      have t7:0<len→fs.length=1:=fun _=>t60
      have t8:0<len:=by omega
      have t9:=Lib.hid t7;have t6:((fs.length:Int)==1)=true:=by simp[t60]
      clear t3 t7 t60;go_enter Tryz.func31,Tryz.ntmps31;go_wp2_with fail;have hT:=Lib.hid (t9.out);clear t6;generalize w.alloc (.cells #[.int .i64 (len),v] 25)=W at*;go_loopw [3] (fun i wr=>∃k:Nat,k≤fs.length∧i=.int .i64 k∧Mod [] W wr∧Good (fs.take k)) (fun i _=>fs.length-(intOf i).toNat)
      case atStart=>exact⟨0,by omega,rfl,Mod.refl _ _,by simp[Good]⟩
      case round=>
       obtain⟨k,hk,rfl,hm,hgk⟩:=hrel;have cb:=cells_of (hm.at q0 (by simp));by_cases hlt:k<fs.length
       ·rcases h' with⟨_,rfl⟩|⟨sb,so,cap,rfl,g2,g3,g4⟩
        ·simp at hlt
        ·have c1:=(cell_mod hm g2 (by simp)).trans (g4 k hlt).1;have c2:=(cell_mod hm g2 (by simp)).trans (g4 k hlt).2;have hfe:=firstErr_at hlt hgk;have hgs:=good_snoc hlt hgk;clear g4 hgk h;generalize fs[k]=f at*;obtain⟨fk,fc⟩:=f;simp only at c1 c2;by_cases a1:fk<1
         ·have he:errF (fk,fc)=8:=by simp[errF,a1]
          have hfe:=hfe (by rw[he];decide);rw[he]at hfe;clear hgs he;go_wp2_with fail;go_ret;refine⟨?_,hm0.nil_then (hm.alloc _)⟩;rw[hEH.out,hfe,if_pos (by decide)];rfl
         ·by_cases a2:6<fk
          ·have he:errF (fk,fc)=8:=by simp[errF,a2]
           have hfe:=hfe (by rw[he];decide);rw[he]at hfe;clear hgs he;go_wp2_with fail;go_ret;refine⟨?_,hm0.nil_then (hm.alloc _)⟩;rw[hEH.out,hfe,if_pos (by decide)];rfl
          ·by_cases a3:fk=6
           ·subst a3;by_cases a4:fc<1
            ·have he:errF (6,fc)=3:=by simp[errF,a4]
             have hfe:=hfe (by rw[he];decide);rw[he]at hfe;clear hgs he;go_wp2_with fail;go_ret;refine⟨?_,hm0.nil_then (hm.alloc _)⟩;rw[hEH.out,hfe,if_pos (by decide)];rfl
            ·by_cases a5:65536<fc
             ·have he:errF (6,fc)=4:=by simp[errF,a4,a5]
              have hfe:=hfe (by rw[he];decide);rw[he]at hfe;clear hgs he;go_wp2_with fail;go_ret;refine⟨?_,hm0.nil_then (hm.alloc _)⟩;rw[hEH.out,hfe,if_pos (by decide)];rfl
             ·have he:errF (6,fc)=0:=by simp[errF,a4,a5]
              have hgs:=hgs he;clear hfe he;go_wp2_with fail;go_roundw
              case rel=>exact⟨k+1,by omega,by go_num,hm.alloc _,hgs⟩
              case measure=>simp[intOf];omega
           ·by_cases a4:fc=0
            ·subst a4;have he:errF (fk,0)=0:=by simp[errF,a1,a2,a3]
             have hgs:=hgs he;clear hfe he;go_wp2_with fail;go_roundw
             case rel=>exact⟨k+1,by omega,by go_num,hm.alloc _,hgs⟩
             case measure=>simp[intOf];omega
            ·have he:errF (fk,fc)=3:=by simp[errF,a1,a2,a3,a4]
             have a5:(fc != 0)=true:=by simpa using a4
             have a6:(fc==0)=false:=by simpa using a4
             have hfe:=hfe (by rw[he];decide);rw[he]at hfe;clear hgs he;go_wp2_with fail;go_ret;refine⟨?_,hm0.nil_then (hm.alloc _)⟩;rw[hEH.out,hfe,if_pos (by decide)];rfl
       ·obtain rfl:k=fs.length:=by omega
        rw[List.take_length]at hgk;have hr:=hm.at q0 (by simp);have hfirst:=firstErr_good hgk;clear h;have hone:=hT.out t8;rcases h'.mod hm with⟨_,rfl⟩|⟨sb,so,cap,rfl,g2,g3,g4⟩
        ·simp at hone
        ·have c1:=(g4 0 (by omega)).1;have c2:=(g4 0 (by omega)).2;have hgf:=good_of (hgk fs[0] (List.getElem_mem (by omega)));have hst:sizeT len fs=len*wid fs[0]:=by
          unfold sizeT;rw[if_pos t8,hd_eq hone]
         clear g4 hgk h';generalize fs[0]=f at*;obtain⟨fk,fc⟩:=f;simp only[Nat.zero_mul,Nat.add_zero]at c1 c2;obtain⟨f1,f2,f3,f4,_⟩:=hgf;have hmul:len*wid (fk,fc)≤65536*65536:=Int.mul_le_mul (by omega) f4 (by omega) (by omega);have hmul0:0≤len*wid (fk,fc):=Int.mul_nonneg (by omega) (by omega);rw[hst]at hEH;have hcm:wid (fk,fc)*len=len*wid (fk,fc):=Int.mul_comm _ _;have hw:wrap64 (len*wid (fk,fc))=len*wid (fk,fc):=by
          generalize len*wid (fk,fc)=z at*;unfold wrap64;omega
         have h10:0<fs.length:=by omega
         clear hone hst hT t9;go_wp2_with fail;refine(rwidth_ok fk fc f1 f2 _).mono ?_;rintro e w1 ⟨rfl,hm1⟩;have cb:=cells_of (hm1.at hr (by simp));generalize wid (fk,fc)=wd at*;rw[←hcm]at hEH hw;clear hcm;by_cases hbig:65536<wd*len
         ·go_wp2_with fail;go_ret;refine⟨?_,(hm0.nil_then hm).nil_then hm1⟩;rw[hEH.out,hfirst,if_neg (by simp),if_pos hbig];rfl
         ·go_wp2_with fail;go_ret;refine⟨?_,(hm0.nil_then hm).nil_then hm1⟩;rw[hEH.out,hfirst,if_neg (by simp),if_neg (by omega)];rfl
def regN (R:List Ty) (t:Ty):List Ty:=if errT t.1 t.2=0∧t∉R∧R.length<255 then R++[t]else R
def regTag (R:List Ty) (t:Ty):Int:=if errT t.1 t.2≠0 then 0 else if t∈R then R.idxOf t+1 else if R.length<255 then R.length+1 else 0
def regErr (R:List Ty) (t:Ty):Int:=if errT t.1 t.2≠0 then errT t.1 t.2 else if t∈R then 0 else if R.length<255 then 0 else 4
def regV (R:List Ty) (t:Ty):Value:=.tuple #[.int .i64 (regTag R t),.int .i64 (regErr R t)]
theorem reg_bad {R:List Ty} {t:Ty} (h:errT t.1 t.2≠0):regN R t=R∧regV R t=.tuple #[.int .i64 0,.int .i64 (errT t.1 t.2)]:=by
 simp[regN,regV,regTag,regErr,h]
theorem reg_known {R:List Ty} {t:Ty} (h:errT t.1 t.2=0) (hm:t∈R):regN R t=R∧regV R t=.tuple #[.int .i64 (R.idxOf t+1),.int .i64 0]:=by
 simp[regN,regV,regTag,regErr,h,hm]
theorem reg_full {R:List Ty} {t:Ty} (h:errT t.1 t.2=0) (hm:t∉R) (hl:¬R.length<255):regN R t=R∧regV R t=.tuple #[.int .i64 0,.int .i64 4]:=by
 simp[regN,regV,regTag,regErr,h,hm,hl]
theorem reg_new {R:List Ty} {t:Ty} (h:errT t.1 t.2=0) (hm:t∉R) (hl:R.length<255):regN R t=R++[t]∧regV R t=.tuple #[.int .i64 (R.length+1),.int .i64 0]:=by
 simp[regN,regV,regTag,regErr,h,hm,hl]
theorem reg_takes {T:TypeId} {rb:Nat} {R:List Ty} {sv v:Value} {L:List (Ty×Value)} {f:List Nat} {w w':World} {e:Ending} (he:e=.returned v) (h:Scene f w (regP T rb sv L) w') (h1:L.map (·.1)=R) (h2:∀t∈R,TyOk t) (h3:R.length≤255):Takes (regC T rb R) v w f e w':=by
 obtain⟨f',k1,k2,k3⟩:=h.done;exact⟨f',he,⟨sv,L,h1,h2,h3,k1⟩,k2,k3⟩
theorem reg_apart {T:TypeId} {rb:Nat} {sv:Value} {L:List (Ty×Value)} {w:World} {f:List Nat} (h:Hold (regP T rb sv L) w f):sv.ownBlock≠some rb:=by
 obtain⟨f1,g1,⟨_,e1⟩,⟨f2,g2,⟨_,e2⟩,_,_,e3⟩,hd,_⟩:=h;intro e;refine hd rb (by rw[e1];simp) ?_;rw[e3,e2,e];simp
theorem scene_merge {F:List Nat} {W w:World} {A L:List (Ty×Value)} {x b r:Comp} (h:Scene F W [fieldsC A,x,b,r,fieldsC L] w):Scene F W [b,r,fieldsC (L++A)] w:=by
 obtain⟨hm,fp,⟨f1,_,a1,⟨f2,_,a2,⟨f3,_,a3,⟨f4,_,a4,⟨f5,_,a5,rfl,d5,rfl⟩,d4,rfl⟩,d3,rfl⟩,d2,rfl⟩,d1,rfl⟩,hf⟩:=h;have d1':∀y∈f1,y∉f3∧y∉f4∧y∉f5:=fun y hy=>by
  have:=d1 y hy;simp only[List.mem_append,not_or]at this;exact⟨this.2.1,this.2.2.1,this.2.2.2.1⟩
 refine⟨hm,f3++(f4++((f5++f1)++[])),⟨f3,_,a3,⟨f4,_,a4,⟨f5++f1,[],⟨fun p hp=> ?_,?_⟩,rfl,by simp,rfl⟩,fun y hy hy2=> ?_,rfl⟩,fun y hy hy2=> ?_,rfl⟩,fun y hy=>hf y ?_⟩
 ·rcases List.mem_append.1 hp with hp|hp
  ·exact a5.1 p hp
  ·exact a1.1 p hp
 ·rw[a5.2,a1.2];simp[fblocks]
 ·simp only[List.mem_append,List.not_mem_nil,or_false]at hy2;rcases hy2 with h|h
  ·exact d4 y hy (by simp[h])
  ·exact(d1' y h).2.1 hy
 ·simp only[List.mem_append,List.not_mem_nil,or_false]at hy2;rcases hy2 with h|h|h
  ·exact d3 y hy (by simp[h])
  ·exact d3 y hy (by simp[h])
  ·exact(d1' y h).1 hy
 ·simp only[List.mem_append,List.not_mem_nil,or_false]at hy⊢;rcases hy with h|h|h|h
  ·exact .inr (.inr (.inl h))
  ·exact .inr (.inr (.inr (.inl h)))
  ·exact .inr (.inr (.inr (.inr h)))
  ·exact .inl h
theorem rowBelow0 {w:World} {v:Value} {n:Nat} {xs:List Value} (h:w.ownsRow 0 25 2 v n xs) {g:Nat} (hg:v.ownBlock=some g):g<w.heap.size:=(h.lt g hg).2
theorem scene_put {F:List Nat} {W w:World} {cs:List Comp} (i:Nat) {b:Nat} {xs:Array Value} {T:TypeId} {fr:Nat×Nat} (h:Scene F W cs w) (hi:cs[i]? =some (blockC b (.cells xs T fr))) (o:Nat) (v:Value):
  Scene F W (cs.set i (blockC b (.cells (xs.setIfInBounds o v) T fr))) (w.setCell ⟨b,o,none⟩ v):=by
 obtain⟨f,⟨h1,rfl⟩,hk⟩:=h.part i hi;exact hk _ [b] _ ⟨at_setCell h1,rfl⟩ ((Mod.refl _ _).setCell (.inl (by simp)) v) (fun x hx=>.inl hx)
theorem info_type:(Tryz.prog.info? 25).map (fun i=>(i.zero,i.size,i.bytes))=some (some (.agg #[.int .i64 0,.slice none 0 0]),2,32):=by kernel_rfl
theorem row_src {w:World} {v:Value} {n:Nat} {xs:List Value} {b:Nat} (h:w.ownsRow b 63 2 v n xs):∃a m c,v=.slice a m c:=by
 rcases row_cases h with⟨h,_⟩|⟨g,cap,h,_⟩
 ·exact⟨_,_,_,h⟩
 ·exact⟨_,_,_,h⟩
theorem register_ok {rb:Nat} {R:List Ty} {w:World} {f:List Nat} (h:(regC 135 rb R).on w f) (len:Int) (v:Value) (fs:List Fld) (hF:FieldsAt w v fs) (hn: -9223372036854775808≤len) (hn2:len≤9223372036854775807):
  Calls Tryz.prog 30 #[.pointer (some ⟨rb,0,none⟩),.agg #[.int .i64 len,v]] w (Takes (regC 135 rb (regN R (len,fs))) (regV R (len,fs)) w f):=by
 obtain⟨sv,L,hLR,hok,h255,hH⟩:=h;have hap:=reg_apart hH;have hrow0:=(Scene.start hH).row 1 rfl;have hbx:w.heap.size∉sv.ownBlock.toList:=fun hx=>by have:=rowBelow0 hrow0 (g:=w.heap.size) (by simpa using hx);omega
 have hbxH:=Lib.hid hbx;have hS:=(Scene.start hH).alloc (.cells #[.int .i64 len,v] 25);have hFA:=hF.mod ((Mod.refl [] w).alloc (.cells #[.int .i64 len,v] 25));have hC:=Lib.hid (check_ok len v fs _ hFA hn hn2);have hlenR:L.length=R.length:=by rw[←hLR,List.length_map]
 have hlenH:=Lib.hid hlenR;have hL255:L.length≤255:=by omega
 have hbox:=hS.block 0 rfl;have cbox:=cells_of hbox;have hSH:=Lib.hid hS;have hFH:=Lib.hid hFA;have hokH:=Lib.hid hok;have hLRH:=Lib.hid hLR;have hapH:=Lib.hid hap;have hw1:w.heap.size<(w.alloc (.cells #[.int .i64 len,v] 25)).heap.size:=by simp
 clear hS hFA hF hH hok hLR hap hbox hrow0 hbx hlenR;generalize hR':regN R (len,fs)=R';generalize hV':regV R (len,fs)=V';have hR'H:=Lib.hid hR';have hV'H:=Lib.hid hV';clear hR' hV';go_enter Tryz.func30,Tryz.ntmps30;go_wp2_with fail;generalize w.alloc (.cells #[.int .i64 len,v] 25)=W0 at*;refine hC.out.mono ?_;rintro e w1 ⟨rfl,hm1⟩;have hS1:=Lib.hid (hSH.out.then hm1);have hF1:=Lib.hid (hFH.out.mod hm1);have hsz:=hm1.size;clear hC hSH hFH hm1 cbox;have hc0:=cells_of (hS1.out.block 0 rfl);have hc1:=cells_of (hS1.out.block 1 rfl);by_cases he:errT len fs=0
 ·rw[he];have hI:=Lib.hid (indexf_ok len v fs w.heap.size w1 hF1.out (hS1.out.block 0 rfl) (hS1.out.row 2 rfl) (scene_fields 3 hS1.out rfl) (by omega));by_cases hm:(len,fs)∈R
  ·obtain⟨k1,k2⟩:=reg_known (t:=(len,fs)) he hm;have hi:idxT (L.map (·.1)) (len,fs)=R.idxOf (len,fs):=by rw[hLRH.out];exact if_pos hm
   rw[hi]at hI;have hq:=List.idxOf_lt_length_of_mem hm;have eR:=hR'H.out.symm.trans k1;have eV:=hV'H.out.symm.trans k2;subst eR eV;clear hR'H hV'H;clear he k1 k2 hi hm;generalize List.idxOf (len,fs) _=q at*;go_wp2_with fail;refine hI.out.mono ?_;rintro e w2 ⟨rfl,hm2⟩;clear hI;go_wp2_with fail;go_ret2;exact reg_takes rfl ((hS1.out.then hm2).erase 0) hLRH.out hokH.out h255
  ·have hi:idxT (L.map (·.1)) (len,fs)= -1:=by rw[hLRH.out];exact idxT_none hm
   rw[hi]at hI;have hmH:=Lib.hid hm;clear hi hm;by_cases hl:R.length<255
   ·have hl2:L.length<255:=by have:=hlenH.out;omega
    obtain⟨k1,k2⟩:=reg_new (t:=(len,fs)) he hmH.out hl;have eR:=hR'H.out.symm.trans k1;have eV:=hV'H.out.symm.trans k2;subst eR eV;clear hR'H hV'H;have hb:=TyOk.bounds (t:=(len,fs)) he;have heH:=Lib.hid he;clear he k1 k2;have hfl:fs.length≤32:=hb.2.2;clear hb;go_wp2_with fail;refine hI.out.mono ?_;rintro e w2 ⟨rfl,hm2⟩;have hln:=fun ty w=>row_len (ty:=ty) Tryz.underlying40 (hS1.out.row 2 rfl) w
    have hS2:=Lib.hid (hS1.out.then hm2);have hF2:=Lib.hid (hF1.out.mod hm2);have hb1:=hS2.out.block 1 rfl;have hb0:=hS2.out.block 0 rfl;have hc1:=cells_of hb1;have hsz2:=hm2.size;clear hI hS1 hF1 hm2;go_wp2_with fail;have k1:=GW.cells (S:=sv.ownBlock.toList) hb1 (by simpa using hapH.out);have k2:=GW.cells (S:=sv.ownBlock.toList) hb0 hbxH.out;clear hc1 hc0 hb1 hb0 hln;refine wp_region_stage (fun w'=>∃x:GW sv.ownBlock.toList w2,w'=x.1) (fun w'=>Mod [] w2 w') (by kernel_rfl) (by kernel_rfl) (fun _ h=>InGW.of (h.mono (by simp))) (Mod.refl _ _).drew ?_;refine stage_quiet 6 (by kernel_rfl) ?_;simp only[tA,tB,tC,tD];(repeat go_big_quiet_step (fail));refine wpQuiet_nil ?_;refine stage_call_any 67 #[.agg #[.int .i64 len,v]] (fun u=>∃a m c,u=.agg #[.int .i64 len,.slice a m c]) (fun u w'=>Mod [] w2 w'∧∃v',u=.agg #[.int .i64 len,v']∧w'.ownsRow w2.heap.size 63 2 v' fs.length (fcells fs)) rfl Tryz.call67 rfl rfl ⟨_,none,0,0,rfl⟩ (fun w' hw=>(copied_ok len v fs (by omega) w' (hF2.out.mod hw)).mono fun e w'' ⟨v',he,hr,hm⟩=>⟨_,he,?_,hw.nil_then hm,v',rfl,row_base hr hw.size⟩) (fun v w' h=>InGW.of (h.1.mono (by simp))) (fun u hu=> ?_)
    ·obtain⟨a,m,c,rfl⟩:=row_src hr;exact⟨a,m,c,rfl⟩
    obtain⟨a,m,c,rfl⟩:=hu;simp only[Act.put,sA,sB,sC];refine stage_alloc (fun s=>.slice (some ⟨s,0,none⟩) 1 1) (.cells #[.int .i64 len,.slice a m c] 25 (0,0)) (fun s w'=>Mod [] w2 w'∧w'.ownsRow w2.heap.size 63 2 (.slice a m c) fs.length (fcells fs)∧w'.heap[s]? =some (.cells #[.int .i64 len,.slice a m c] 25 (0,0))) (by intro s s' h;simpa using h) rfl rfl (fun w' hw=> ?_) (fun w' hw=> ?_) (fun s w' h=>InGW.of (h.1.mono (by simp))) (fun s=> ?_)
    ·kernel_rfl
    ·obtain⟨h1,v',h2,h3⟩:=hw;simp at h2;subst h2;exact⟨h1.alloc _,row_mod h3 ((Mod.refl [] w').alloc _) (by simp),at_alloc _ _⟩
    simp only[Act.put,sA,sB,sC];obtain⟨i0,hi0,hz0,hz1,hz2⟩:=info_parts info_type;refine stage_any (fun u=>∃g cap,u=.slice (some ⟨g,0,none⟩) (L.length+1) cap) (fun u w'=>Mod sv.ownBlock.toList w2 w'∧Scene f w [blockC rb (.cells #[sv] 135 (0,0)),rowC u (L.length+1) 25 2 (flat tcell (L++[((len,fs),.slice a m c)])),fieldsC (L++[((len,fs),.slice a m c)])] w') rfl rfl ⟨_,0,0,rfl⟩ (fun w' hw=> ?_) (fun u w' h=>InGW.of h.1) (fun u hu=> ?_)
    ·obtain⟨h1,h2,h3⟩:=hw;have hS3:=hS2.out.add (c:=fieldsC [((len,fs),.slice a m c)]) (f:=fblocks [((len,fs),.slice a m c)]) h1 ⟨fun p hp=>by rw[List.mem_singleton.1 hp];exact row_fields h2 rfl,rfl⟩ (fun x hx=>by
      obtain⟨p,hp,hx⟩:=mem_fblocks hx;rw[List.mem_singleton.1 hp]at hx;exact(h2.lt x hx).1)
     obtain⟨v',w3,hr,r2,r3,r4⟩:=run_append_row (P:=Tryz.prog) w' 40 40 25 i0 (.agg #[.int .i64 0,.slice none 0 0]) 2 32 Tryz.underlying40 hi0 hz0 hz1 hz2 rfl (by decide) sv L.length (flat tcell L) (hS3.row 3 rfl) ⟨s,0,none⟩ 1 1 [.int .i64 len,.slice a m c] rfl (fun j u hj=>by rw[add_at,Nat.zero_add,cells_of h3];simpa using hj) (by simp[Value.oneCell']) (by unfold maxLen;omega) (by omega);obtain⟨g',cap',rfl,_,_⟩:=row_pos r2 (by omega);have e:flat tcell L++[.int .i64 len,.slice a m c]=flat tcell (L++[((len,fs),.slice a m c)]):=by rw[flat_append,flat_one];rfl
     rw[e]at r2;exact⟨_,w3,exec_append _ _ 40 rfl rfl rfl hr,⟨g',cap',rfl⟩,(h1.mono (by simp)).grown r3 (fun k hk=>.inl (by simp[hk])),scene_merge (hS3.grown 3 rfl r2 r3 r4)⟩
    obtain⟨g,cap,rfl⟩:=hu;simp only[Act.put,sA,sB,sC];refine stage_quiet 2 (by kernel_rfl) ?_;simp only[tA,tB,tC,tD];(repeat go_big_quiet_step (fail));refine wpQuiet_nil ?_;refine stage_store (p:=⟨rb,0,none⟩) (u:=.slice (some ⟨g,0,none⟩) (L.length+1) cap) (fun w'=>w'.setCell ⟨rb,0,none⟩ (.slice (some ⟨g,0,none⟩) (L.length+1) cap)) rfl rfl (by kernel_rfl) rfl rfl rfl (fun w' hw=> ?_) (fun w' hw=> ?_)
    ·have c1:=cells_of (hw.2.block 0 rfl);have f1:=frozen_of (hw.2.block 0 rfl);clear k1 k2;go_simp
    ·have hS4:=scene_put 0 hw.2 rfl 0 (.slice (some ⟨g,0,none⟩) (L.length+1) cap);have hcb:=cells_of (hS4.block 0 rfl);have hln:=fun ty w=>row_len (ty:=ty) Tryz.underlying40 (hS4.row 1 rfl) w
     have hS4H:=Lib.hid hS4;clear k1 k2 hS4 hw;go_wp2_with fail;go_ret2;have hP:Scene f w (regP 135 rb (.slice (some ⟨g,0,none⟩) (L.length+1) cap) (L++[((len,fs),.slice a m c)])) (w'.setCell ⟨rb,0,none⟩ (.slice (some ⟨g,0,none⟩) (L.length+1) cap)):=by
      unfold regP;rw[show(L++[((len,fs),Value.slice a m c)]).length=L.length+1 by simp];exact hS4H.out
     refine reg_takes (by simp[←hlenH.out]) hP ?_ (fun t ht=> ?_) ?_
     ·rw[List.map_append,hLRH.out];rfl
     ·rcases List.mem_append.1 ht with h|h
      ·exact hokH.out t h
      ·rw[List.mem_singleton.1 h];exact heH.out
     ·rw[List.length_append];simp;omega
   ·have hl2:¬L.length<255:=by have:=hlenH.out;omega
    obtain⟨k1,k2⟩:=reg_full (t:=(len,fs)) he hmH.out hl;have eR:=hR'H.out.symm.trans k1;have eV:=hV'H.out.symm.trans k2;subst eR eV;clear hR'H hV'H;clear he k1 k2;go_wp2_with fail;refine hI.out.mono ?_;rintro e w2 ⟨rfl,hm2⟩;have hln:=fun ty w=>row_len (ty:=ty) Tryz.underlying40 (hS1.out.row 2 rfl) w
    have hS2:=Lib.hid (hS1.out.then hm2);have hc1:=cells_of (hS2.out.block 1 rfl);clear hI hS1 hm2;go_wp2_with fail;go_ret2;exact reg_takes rfl (hS2.out.erase 0) hLRH.out hokH.out h255
 ·obtain⟨k1,k2⟩:=reg_bad (R:=R) (t:=(len,fs)) he;have eR:=hR'H.out.symm.trans k1;have eV:=hV'H.out.symm.trans k2;subst eR eV;clear hR'H hV'H;have heH:=Lib.hid he;have z:(errT len fs==0)=false:=by simp only[beq_eq_false_iff_ne];exact he
  clear he k1 k2;generalize errT len fs=q at*;go_wp2_with fail;go_ret2;exact reg_takes rfl (hS1.out.erase 0) hLRH.out hokH.out h255
end Go.Proofs.YteidpgdfocjdbaaGreat.Ty
