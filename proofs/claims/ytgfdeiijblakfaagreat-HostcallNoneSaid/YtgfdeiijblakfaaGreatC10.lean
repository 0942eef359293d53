/- Joined contracts. No conditions. -/
import Derived.Laws.OwnMore
import Derived.Test.YtgfdeiijblakfaaGreatCS
import Derived.Test.YtgfdeiijblakfaaGreatC09
set_option maxHeartbeats 4000000
set_option maxRecDepth 10000
namespace Go.Proofs.YtgfdeiijblakfaaGreat.Ty
open Go Go.RowKit Go.Stg
def firstErr:List Fld→Int
 | []=>0
 |f::r=>if errF f≠0 then errF f else firstErr r
theorem firstErr_good {fs:List Fld} (h:Good fs):firstErr fs=0:=by
 induction fs with
 |nil=>rfl
 |cons f r ih=>simp[firstErr,h f (by simp),ih (fun g hg=>h g (by simp[hg]))]
theorem firstErr_at {fs:List Fld} {k:Nat} (hk:k<fs.length) (h:Good (fs.take k)) (he:errF fs[k]≠0):firstErr fs=errF fs[k]:=by
 induction fs generalizing k with
 |nil=>simp at hk
 |cons f r ih=>
  cases k with
  |zero=>simp at he;simp[firstErr,he]
  |succ k=>
   have h0:errF f=0:=h f (by simp);simp only[firstErr,h0,ne_eq,not_true_eq_false,if_false,List.getElem_cons_succ];exact ih (by simpa using hk) (fun g hg=>h g (by simp[hg])) (by simpa using he)
theorem good_snoc {fs:List Fld} {k:Nat} (hk:k<fs.length) (h:Good (fs.take k)) (he:errF fs[k]=0):Good (fs.take (k+1)):=by
 rw[take_snoc fs hk];intro f hf;rcases List.mem_append.1 hf with hf|hf
 ·exact h f hf
 ·rw[List.mem_singleton.1 hf];exact he
def hd (fs:List Fld):Fld:=fs.headD (0,0)
def sizeT (len:Int) (fs:List Fld):Int:=if 0<len then len*wid (hd fs)else sizeR fs
def badT (len:Int) (fs:List Fld):Prop:=(len=0∧fs.length=0)∨(0<len∧fs.length≠1)
instance badT.dec (len:Int) (fs:List Fld):Decidable (badT len fs):=inferInstanceAs (Decidable (_∨_))
def errT (len:Int) (fs:List Fld):Int:=if len<0 then 3 else if 65536<len then 4 else if badT len fs then 3 else if 32<fs.length then 4 else if firstErr fs≠0 then firstErr fs else if 65536<sizeT len fs then 4 else 0
theorem size_ok (len:Int) (v:Value) (fs:List Fld) (w:World) (h:FieldsAt w v fs) (hg:Good fs) (hl:fs.length≤100) (h0:0≤len) (h1:len≤65536) (h2:0<len→fs.length=1):
  Calls Tryz.prog 31 #[.agg #[.int .i64 len,v]] w fun e w'=>e=.returned (.int .i64 (sizeT len fs))∧Mod [] w w':=by
 have q0:=at_alloc w (.cells #[.int .i64 len,v] 38);have hm0:=(Mod.refl [] w).alloc (.cells #[.int .i64 len,v] 38);have h':=h.mod hm0;go_enter Tryz.func31,Tryz.ntmps31;by_cases hp:0<len
 ·go_wp2_with fail;have hone:=h2 hp;rcases h' with⟨_,rfl⟩|⟨sb,so,cap,rfl,g2,g3,g4⟩
  ·simp at hone
  ·generalize w.alloc (.cells #[.int .i64 len,.slice (some ⟨sb,so,none⟩) fs.length cap] 38)=W at*;have c1:=(g4 0 (by omega)).1;have c2:=(g4 0 (by omega)).2;have hgf:=good_of (hg fs[0] (List.getElem_mem (by omega)));have hst:sizeT len fs=len*wid fs[0]:=by
    unfold sizeT;rw[if_pos hp];congr 2
    cases fs with
    |nil=>simp at hone
    |cons f r=>rfl
   have hstH:=Lib.hid hst;clear hst g4 hg h h2;generalize fs[0]=f at*;obtain⟨fk,fc⟩:=f;rw[hone];simp only[Nat.zero_mul,Nat.add_zero]at c1 c2;have k1:=GW.cells (S:=[]) q0 (by simp);have k2:=GW.cell1 (S:=[]) c1 g2 (by simp);have k3:=GW.cell1 (S:=[]) c2 g2 (by simp);obtain⟨_,_,e1,e2,_⟩:=hgf;have hmul:len*wid (fk,fc)≤65536*65536:=Int.mul_le_mul h1 e2 (by omega) (by omega);have hmul0:0≤len*wid (fk,fc):=Int.mul_nonneg h0 (by omega);have hw:wrap64 (len*wid (fk,fc))=len*wid (fk,fc):=by
    generalize len*wid (fk,fc)=z at*;unfold wrap64;omega
   refine wp_region_pure (by kernel_rfl) (by kernel_rfl) ?_;refine stage_quiet 6 (by kernel_rfl) ?_;simp only[tA,tB,tC,tD];(repeat go_big_quiet_step (fail));refine wpQuiet_nil ?_;refine stage_pure 66 _ (.int .i64 (wid (fk,fc))) rfl Tryz.call66 rfl rfl (fun w' _=>width_ok fk fc w') ?_;simp only[Act.put,sA,sB,sC];refine stage_quiet 2 (by kernel_rfl) ?_;simp only[tA,tB,tC,tD];(repeat go_big_quiet_step (fail));refine wpQuiet_nil ?_;refine stage_nil fun w2 hm2=> ?_
   clear k1 k2 k3 c1 c2;go_wp2_with fail;go_ret;refine⟨?_,hm0.nil_then hm2⟩;rw[hstH.out];rfl
 ·have hgood:=hg;have hp1:=Lib.hid (places_ok v fs (-1) _ h' hg hl);obtain⟨x,y,z0,ho⟩:=outC_size fs (-1) fs.length;rw[ho]at hp1;go_wp2_with fail;refine hp1.out.mono ?_;rintro e w1 ⟨rfl,hm1⟩;go_wp2_with fail;go_ret;refine⟨?_,(hm0.nil_then hm1).alloc _⟩;unfold sizeT;rw[if_neg (by omega)];rfl
theorem check_ok (len:Int) (v:Value) (fs:List Fld) (w:World) (h:FieldsAt w v fs) (hn: -9223372036854775808≤len) (hn2:len≤9223372036854775807):
  Calls Tryz.prog 20 #[.agg #[.int .i64 len,v]] w fun e w'=>e=.returned (.int .i64 (errT len fs))∧Mod [] w w':=by
 have q0:=at_alloc w (.cells #[.int .i64 len,v] 38);have hm0:=(Mod.refl [] w).alloc (.cells #[.int .i64 len,v] 38);have h':=h.mod hm0;have hln:=fun ty w=>h.len ty w
 have hsm:=h.small;have hE:errT len fs=if len<0 then 3 else if 65536<len then 4 else if badT len fs then 3 else if 32<fs.length then 4 else if firstErr fs≠0 then firstErr fs else if 65536<sizeT len fs then 4 else 0:=rfl
 by_cases t1:len<0
 ·rw[if_pos t1]at hE;rw[hE];clear hE h h';go_enter Tryz.func20,Tryz.ntmps20;go_wp2_with fail;go_ret;exact⟨rfl,hm0⟩
 ·rw[if_neg t1]at hE;by_cases t2:65536<len
  ·rw[if_pos t2]at hE;rw[hE];clear hE h h';go_enter Tryz.func20,Tryz.ntmps20;go_wp2_with fail;go_ret;exact⟨rfl,hm0⟩
  ·rw[if_neg t2]at hE;by_cases t3:badT len fs
   ·rw[if_pos t3]at hE;rw[hE];clear hE h h';rcases t3 with⟨t3,t4⟩|⟨t3,t4⟩
    ·subst t3;rw[t4]at hln;go_enter Tryz.func20,Tryz.ntmps20;go_wp2_with fail;go_ret;exact⟨rfl,hm0⟩
    ·have t5:¬(len=0):=by omega
     go_enter Tryz.func20,Tryz.ntmps20;go_wp2_with fail;go_ret;exact⟨rfl,hm0⟩
   ·rw[if_neg t3]at hE;by_cases t4:32<fs.length
    ·rw[if_pos t4]at hE;rw[hE];clear hE h h';by_cases t5:len=0
     ·subst t5;have t6:((fs.length:Int)==0)=false:=by simp only[beq_eq_false_iff_ne];omega
      clear t3;go_enter Tryz.func20,Tryz.ntmps20;go_wp2_with fail;go_ret;exact⟨rfl,hm0⟩
     ·exact absurd (.inr ⟨by omega,by omega⟩) t3
    ·rw[if_neg t4]at hE;have hEH:=Lib.hid hE;clear hE;by_cases t5:len=0
     ·subst t5;have t6:((fs.length:Int)==0)=false:=by
       simp only[beq_eq_false_iff_ne];intro e;exact t3 (.inl ⟨rfl,by omega⟩)
      have t7:(0:Int)<0→fs.length=1:=fun h=>absurd h (by omega)
      clear t3;go_enter Tryz.func20,Tryz.ntmps20;go_wp2_with fail;have hT:=Lib.hid (t7);clear t6;generalize w.alloc (.cells #[.int .i64 (0),v] 38)=W at*;go_loopw [43] (fun i wr=>∃k:Nat,k≤fs.length∧i=.int .i64 k∧Mod [] W wr∧Good (fs.take k)) (fun i _=>fs.length-(intOf i).toNat)
      case atStart=>exact⟨0,by omega,rfl,Mod.refl _ _,by simp[Good]⟩
      case round=>
       obtain⟨k,hk,rfl,hm,hgk⟩:=hrel;by_cases hlt:k<fs.length
       ·rcases h' with⟨_,rfl⟩|⟨sb,so,cap,rfl,g2,g3,g4⟩
        ·simp at hlt
        ·have c1:=(cell_mod hm g2 (by simp)).trans (g4 k hlt).1;have c2:=(cell_mod hm g2 (by simp)).trans (g4 k hlt).2;have hfe:=firstErr_at hlt hgk;have hgs:=good_snoc hlt hgk;clear g4 hgk h;generalize fs[k]=f at*;obtain⟨fk,fc⟩:=f;simp only at c1 c2;go_wp2_with fail;refine(checkF_ok fk fc _).mono ?_;rintro e w1 ⟨rfl,hm1⟩;by_cases he:errF (fk,fc)=0
         ·have hgs:=hgs he;clear hfe c1 c2;rw[he];go_wp2_with fail;go_roundw
          case rel=>exact⟨k+1,by omega,by go_num,(hm.alloc _).nil_then hm1,hgs⟩
          case measure=>simp[intOf];omega
         ·have hfe:=hfe he;clear hgs c1 c2;go_wp2_with fail;go_ret;refine⟨?_,(hm0.nil_then (hm.alloc _)).nil_then hm1⟩;rw[hEH.out,hfe,if_pos he];rfl
       ·obtain rfl:k=fs.length:=by omega
        rw[List.take_length]at hgk;have hr:=hm.at q0 (by simp);have cb:=cells_of hr;have hfirst:=firstErr_good hgk;clear h;go_wp2_with fail;refine(size_ok (0) v fs _ (h'.mod hm) hgk (by omega) (by omega) (by omega) hT.out).mono ?_;rintro e w1 ⟨rfl,hm1⟩;by_cases hbig:65536<sizeT (0) fs
        ·go_wp2_with fail;go_ret;refine⟨?_,(hm0.nil_then hm).nil_then hm1⟩;rw[hEH.out,hfirst,if_neg (by simp),if_pos hbig];rfl
        ·go_wp2_with fail;go_ret;refine⟨?_,(hm0.nil_then hm).nil_then hm1⟩;rw[hEH.out,hfirst,if_neg (by simp),if_neg (by omega)];rfl
     ·have t60:fs.length=1:=by
       by_cases e:fs.length=1
       ·exact e
       ·exact absurd (.inr ⟨by omega,e⟩) t3
      have t7:0<len→fs.length=1:=fun _=>t60
      have t8:0<len:=by omega
      have t9:=Lib.hid t7;have t6:((fs.length:Int)==1)=true:=by simp[t60]
      clear t3 t7 t60;go_enter Tryz.func20,Tryz.ntmps20;go_wp2_with fail;have hT:=Lib.hid (t9.out);clear t6;generalize w.alloc (.cells #[.int .i64 (len),v] 38)=W at*;go_loopw [43] (fun i wr=>∃k:Nat,k≤fs.length∧i=.int .i64 k∧Mod [] W wr∧Good (fs.take k)) (fun i _=>fs.length-(intOf i).toNat)
      case atStart=>exact⟨0,by omega,rfl,Mod.refl _ _,by simp[Good]⟩
      case round=>
       obtain⟨k,hk,rfl,hm,hgk⟩:=hrel;by_cases hlt:k<fs.length
       ·rcases h' with⟨_,rfl⟩|⟨sb,so,cap,rfl,g2,g3,g4⟩
        ·simp at hlt
        ·have c1:=(cell_mod hm g2 (by simp)).trans (g4 k hlt).1;have c2:=(cell_mod hm g2 (by simp)).trans (g4 k hlt).2;have hfe:=firstErr_at hlt hgk;have hgs:=good_snoc hlt hgk;clear g4 hgk h;generalize fs[k]=f at*;obtain⟨fk,fc⟩:=f;simp only at c1 c2;go_wp2_with fail;refine(checkF_ok fk fc _).mono ?_;rintro e w1 ⟨rfl,hm1⟩;by_cases he:errF (fk,fc)=0
         ·have hgs:=hgs he;clear hfe c1 c2;rw[he];go_wp2_with fail;go_roundw
          case rel=>exact⟨k+1,by omega,by go_num,(hm.alloc _).nil_then hm1,hgs⟩
          case measure=>simp[intOf];omega
         ·have hfe:=hfe he;clear hgs c1 c2;go_wp2_with fail;go_ret;refine⟨?_,(hm0.nil_then (hm.alloc _)).nil_then hm1⟩;rw[hEH.out,hfe,if_pos he];rfl
       ·obtain rfl:k=fs.length:=by omega
        rw[List.take_length]at hgk;have hr:=hm.at q0 (by simp);have cb:=cells_of hr;have hfirst:=firstErr_good hgk;clear h;go_wp2_with fail;refine(size_ok (len) v fs _ (h'.mod hm) hgk (by omega) (by omega) (by omega) hT.out).mono ?_;rintro e w1 ⟨rfl,hm1⟩;by_cases hbig:65536<sizeT (len) fs
        ·go_wp2_with fail;go_ret;refine⟨?_,(hm0.nil_then hm).nil_then hm1⟩;rw[hEH.out,hfirst,if_neg (by simp),if_pos hbig];rfl
        ·go_wp2_with fail;go_ret;refine⟨?_,(hm0.nil_then hm).nil_then hm1⟩;rw[hEH.out,hfirst,if_neg (by simp),if_neg (by omega)];rfl
end Go.Proofs.YtgfdeiijblakfaaGreat.Ty
namespace Go.Proofs.YtgfdeiijblakfaaGreat.Ty
open Go Go.RowKit Go.Stg
theorem FieldsAt.modS {S:List Nat} {w w':World} {v:Value} {fs:List Fld} (h:FieldsAt w v fs) (hm:Mod S w w') (hS:∀x,v.ownBlock=some x→x∉S):FieldsAt w' v fs:=by
 rcases h with h|⟨sb,so,cap,rfl,h2,h3,h4⟩
 ·exact .inl h
 ·exact .inr ⟨sb,so,cap,rfl,hm.lt h2,h3,fun i hi=>⟨(cell_mod hm h2 (hS sb rfl)).trans (h4 i hi).1,(cell_mod hm h2 (hS sb rfl)).trans (h4 i hi).2⟩⟩
def fcells (fs:List Fld):List Value:=fs.flatMap fun f=>[.int .i64 f.1,.int .i64 f.2]
theorem fcells_length:∀fs:List Fld,(fcells fs).length=fs.length*2
 | []=>rfl
 |f::r=>by
  have:=fcells_length r;simp[fcells]at this⊢;omega
theorem fcells_at:∀(fs:List Fld) (i:Nat) (h:i<fs.length),(fcells fs)[i*2]? =some (.int .i64 fs[i].1)∧(fcells fs)[i*2+1]? =some (.int .i64 fs[i].2)
 | [],i,h=>by simp at h
 |f::r,0,_=>⟨rfl,rfl⟩
 |f::r,i+1,h=>by
  have e:fcells (f::r)=.int .i64 f.1:: .int .i64 f.2::fcells r:=rfl;have h1:(i+1)*2=i*2+2:=by omega
  have h2:i*2+2+1=i*2+1+2:=by omega
  rw[e,h1,h2];exact fcells_at r i (by simpa using h)
theorem fcells_snoc (fs:List Fld) (f:Fld):fcells (fs++[f])=fcells fs++[.int .i64 f.1,.int .i64 f.2]:=by simp[fcells]
theorem row_fields {w:World} {e base n:Nat} {v:Value} {fs:List Fld} (h:w.ownsRow base e 2 v n (fcells fs)) (hn:n=fs.length):FieldsAt w v fs:=by
 subst hn;rcases row_cases h with⟨rfl,h0,_⟩|⟨g,cap,rfl,_,hg,hc,hm,hat⟩
 ·exact .inl ⟨rfl,List.eq_nil_of_length_eq_zero h0⟩
 ·refine .inr ⟨g,0,cap,rfl,hg,by omega,fun i hi=> ?_⟩;rw[Nat.zero_add];exact⟨(hat _ (by omega)).trans (fcells_at fs i hi).1,(hat _ (by omega)).trans (fcells_at fs i hi).2⟩
theorem info_field:(Tryz.prog.info? 35).map (fun i=>(i.zero,i.size,i.bytes))=some (some (.agg #[.int .i64 0,.int .i64 0]),2,16):=by kernel_rfl
theorem cells2 (w:World) (a b:Value) (T:TypeId):∀j u,[a,b][j]? =some u→(w.alloc (.cells #[a,b] T)).cell? ((⟨w.heap.size,0,none⟩:Addr).add j)=some u:=by
 intro j u h;have hadd:(⟨w.heap.size,0,none⟩:Addr).add j=⟨w.heap.size,j,none⟩:=by unfold Addr.add;split<;>simp_all
 rw[hadd,cells_of (at_alloc w _)];simpa using h
end Go.Proofs.YtgfdeiijblakfaaGreat.Ty
namespace Go.Proofs.YtgfdeiijblakfaaGreat.Ty
open Go Go.RowKit Go.Stg
theorem add_at (b o j:Nat):(⟨b,o,none⟩:Addr).add j=⟨b,o+j,none⟩:=by unfold Addr.add;split<;>simp_all
def NumsAt (w:World) (v:Value) (xs:List Int):Prop:=
 (v=.slice none 0 0∧xs=[])∨∃sb so cap,v=.slice (some ⟨sb,so,none⟩) xs.length cap∧sb<w.heap.size∧xs.length≤maxLen∧xs.length≤cap∧
  ∀i (h:i<xs.length),w.cell? ⟨sb,so+i,none⟩=some (.int .u16 xs[i])∧0≤xs[i]∧xs[i]≤65535
theorem NumsAt.mod {S:List Nat} {w w':World} {v:Value} {xs:List Int} (h:NumsAt w v xs) (hm:Mod S w w') (hS:∀x,v.ownBlock=some x→x∉S):NumsAt w' v xs:=by
 rcases h with h|⟨sb,so,cap,rfl,h2,h3,h5,h4⟩
 ·exact .inl h
 ·exact .inr ⟨sb,so,cap,rfl,hm.lt h2,h3,h5,fun i hi=>⟨(cell_mod hm h2 (hS sb rfl)).trans (h4 i hi).1,(h4 i hi).2⟩⟩
theorem NumsAt.small {w:World} {v:Value} {xs:List Int} (h:NumsAt w v xs):xs.length≤9223372036854775807:=by
 rcases h with⟨_,rfl⟩|⟨_,_,_,_,_,h,_⟩
 ·simp
 ·exact h
def SliceIn (w:World) (sv:Value) (cs:List Value):Prop:=
 (sv=.slice none 0 0∧cs=[])∨∃sb so cap,sv=.slice (some ⟨sb,so,none⟩) cs.length cap∧sb<w.heap.size∧∀j u,cs[j]? =some u→w.cell? ⟨sb,so+j,none⟩=some u
theorem row_slice {w:World} {e base sz n:Nat} {v:Value} {xs:List Value} (h:w.ownsRow base e sz v n xs):∃a m c,v=.slice a m c:=by
 rcases row_cases h with⟨h,_⟩|⟨g,cap,h,_⟩
 ·exact⟨_,_,_,h⟩
 ·exact⟨_,_,_,h⟩
end Go.Proofs.YtgfdeiijblakfaaGreat.Ty
namespace Go.Proofs.YtgfdeiijblakfaaGreat.Ty
open Go Go.RowKit Go.Stg
section
variable {P:Program} {ops:Array Oper} {I:World→Prop} {Out:Prop} {Q:Act→World→Prop}
theorem stage_alloc (v:Nat→Value) (ob:Obj) (C':Nat→World→Prop) {o:Oper} {rest:List Oper} {C:World→Prop} {a:Act}
  (hv:∀s s',v s=v s'→s=s') (hw:Region.wanted o (yielded ops a.tmps)=true) (he:eff o=true)
  (hrun:∀w,C w→(execOp a.eval o).run P w=.ok (.value (v w.heap.size)) (w.alloc ob)) (hC:∀w,C w→C' w.heap.size (w.alloc ob)) (hI:∀s w,C' s w→I w)
  (h:∀s,wpStage P ops I Out Q rest (C' s) (a.put o.dst (v s))):wpStage P ops I Out Q (o::rest) C a:=by
 unfold wpStage;simp only[hw,he,if_true];refine⟨fun u=>∃s,u=v s,fun u w=>∃s,u=v s∧C' s w,⟨v 0,0,rfl⟩,fun w hc=> ?_,fun u w ⟨s,h1,h2⟩=>⟨⟨s,h1⟩,.inr (hI s w h2)⟩,fun u ⟨s,hu⟩=> ?_⟩
 ·unfold gives;rw[hrun w hc];exact⟨_,rfl,hC w hc⟩
 ·subst hu;have e:(fun w=>∃s',v s=v s'∧C' s' w)=C' s:=by
   funext w;apply propext;constructor
   ·rintro⟨s',h1,h2⟩;rw[hv _ _ h1];exact h2
   ·intro h;exact⟨s,rfl,h⟩
  have h':=h s;rw[←e]at h';exact h'
theorem stage_any (V:Value→Prop) (C':Value→World→Prop) {o:Oper} {rest:List Oper} {C:World→Prop} {a:Act}
  (hw:Region.wanted o (yielded ops a.tmps)=true) (he:eff o=true) (hV:∃v,V v)
  (hrun:∀w,C w→∃v w',(execOp a.eval o).run P w=.ok (.value v) w'∧V v∧C' v w') (hI:∀v w,C' v w→I w)
  (h:∀v,V v→wpStage P ops I Out Q rest (C' v) (a.put o.dst v)):wpStage P ops I Out Q (o::rest) C a:=by
 unfold wpStage;simp only[hw,he,if_true];refine⟨V,fun u w=>V u∧C' u w,hV,fun w hc=> ?_,fun u w h1=>⟨h1.1,.inr (hI u w h1.2)⟩,fun u hu=> ?_⟩
 ·obtain⟨v,w',hr,h1,h2⟩:=hrun w hc;unfold gives;rw[hr];exact⟨h1,h2⟩
 ·have e:(fun w=>V u∧C' u w)=C' u:=by
   funext w;simp[hu]
  have h':=h u hu;rw[←e]at h';exact h'
theorem stage_call_any (f:FuncId) (args:Array Value) (V:Value→Prop) (C':Value→World→Prop) {o:Oper} {rest:List Oper} {C:World→Prop} {a:Act} {asz:Array Operand} {ts:Array TypeId}
  (hop:o.op=.call ⟨.value (.func f),asz,ts⟩) (hcall:∀(args:Array Value) w,(callFunc f args).run P w=.ok (.enter f args) w)
  (hw:Region.wanted o (yielded ops a.tmps)=true) (hargs:(asz.toList.map a.eval).toArray=args) (hV:∃v,V v)
  (hc:∀w,C w→Calls P f args w fun e w'=>∃v,e=.returned v∧V v∧C' v w') (hI:∀v w,C' v w→I w)
  (h:∀v,V v→wpStage P ops I Out Q rest (C' v) (a.put o.dst v)):wpStage P ops I Out Q (o::rest) C a:=by
 unfold wpStage;have he:eff o=true:=by simp[eff,hop]
 simp only[hw,he,if_true];refine⟨V,fun u w=>V u∧C' u w,hV,fun w hC=> ?_,fun u w h1=>⟨h1.1,.inr (hI u w h1.2)⟩,fun u hu=> ?_⟩
 ·unfold gives;rw[run_go hop rfl hcall w,hargs];exact(hc w hC).mono fun e w' ⟨v,h1,h2,h3⟩=>by subst h1;exact⟨h2,h3⟩
 ·have e:(fun w=>V u∧C' u w)=C' u:=by
   funext w;simp[hu]
  have h':=h u hu;rw[←e]at h';exact h'
end
theorem exec_append {P:Program} {w w':World} {o:Oper} {a:Act} {v u v':Value} (s x:Operand) (t:TypeId) (ho:o.op=.call {callee:=.builtin .append,args:=#[s,x],argTypes:=#[t,t]}) (hs:a.eval s=v) (hx:a.eval x=u)
  (hr:(Builtin.append_ #[t,t] o.type #[v,u]).run P w=.ok v' w'):(execOp a.eval o).run P w=.ok (.value v') w':=by
 unfold execOp;simp only[ho,resolve,invoke,builtin,Sem.run_bind,Sem.run_pure,Result.andThen_ok,List.map_toArray,List.map_cons,List.map_nil,hs,hx,hr]
end Go.Proofs.YtgfdeiijblakfaaGreat.Ty
