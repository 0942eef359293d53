/- Joined contracts. No conditions. -/
import Derived.Laws.OwnMore
import Derived.Test.YteidpgdfocjdbaaGreatCS
import Derived.Test.YteidpgdfocjdbaaGreatC07
set_option maxHeartbeats 4000000
set_option maxRecDepth 10000
namespace Go.Proofs.YteidpgdfocjdbaaGreat.Ty
open Go Go.RowKit Go.Stg
def firstErr:List Fld→Int
 | []=>0
 |f::r=>if errF f≠0 then errF f else firstErr r
theorem firstErr_good {fs:List Fld} (h:Good fs):firstErr fs=0:=by
 induction fs with
 |nil=>rfl
 |cons f r ih=>simp[firstErr,h f (by simp),ih (fun g hg=>h g (by simp[hg]))]
theorem firstErr_at {fs:List Fld} {k:Nat} (hk:k<fs.length) (h:Good (fs.take k)) (he:errF fs[k]≠0):firstErr fs=errF fs[k]:=by
 induction fs generalizing k with
 |nil=>simp at hk
 |cons f r ih=>
  cases k with
  |zero=>simp at he;simp[firstErr,he]
  |succ k=>
   have h0:errF f=0:=h f (by simp);simp only[firstErr,h0,ne_eq,not_true_eq_false,if_false,List.getElem_cons_succ];exact ih (by simpa using hk) (fun g hg=>h g (by simp[hg])) (by simpa using he)
theorem good_snoc {fs:List Fld} {k:Nat} (hk:k<fs.length) (h:Good (fs.take k)) (he:errF fs[k]=0):Good (fs.take (k+1)):=by
 rw[take_snoc fs hk];intro f hf;rcases List.mem_append.1 hf with hf|hf
 ·exact h f hf
 ·rw[List.mem_singleton.1 hf];exact he
def hd (fs:List Fld):Fld:=fs.headD (0,0)
def sizeT (len:Int) (fs:List Fld):Int:=if 0<len then len*wid (hd fs)else sizeR fs
def badT (len:Int) (fs:List Fld):Prop:=(len=0∧fs.length=0)∨(0<len∧fs.length≠1)
instance badT.dec (len:Int) (fs:List Fld):Decidable (badT len fs):=inferInstanceAs (Decidable (_∨_))
def errT (len:Int) (fs:List Fld):Int:=if len<0 then 3 else if 65536<len then 4 else if badT len fs then 3 else if 32<fs.length then 4 else if firstErr fs≠0 then firstErr fs else if 65536<sizeT len fs then 4 else 0
theorem size_ok (len:Int) (v:Value) (fs:List Fld) (w:World) (h:FieldsAt w v fs) (hg:Good fs) (hl:fs.length≤100) (h0:0≤len) (h1:len≤65536) (h2:0<len→fs.length=1):
  Calls Tryz.prog 63 #[.agg #[.int .i64 len,v]] w fun e w'=>e=.returned (.int .i64 (sizeT len fs))∧Mod [] w w':=by
 have q0:=at_alloc w (.cells #[.int .i64 len,v] 25);have hm0:=(Mod.refl [] w).alloc (.cells #[.int .i64 len,v] 25);have h':=h.mod hm0;go_enter Tryz.func63,Tryz.ntmps63;by_cases hp:0<len
 ·go_wp2_with fail;have hone:=h2 hp;rcases h' with⟨_,rfl⟩|⟨sb,so,cap,rfl,g2,g3,g4⟩
  ·simp at hone
  ·generalize w.alloc (.cells #[.int .i64 len,.slice (some ⟨sb,so,none⟩) fs.length cap] 25)=W at*;have c1:=(g4 0 (by omega)).1;have c2:=(g4 0 (by omega)).2;have hgf:=good_of (hg fs[0] (List.getElem_mem (by omega)));have hst:sizeT len fs=len*wid fs[0]:=by
    unfold sizeT;rw[if_pos hp];congr 2
    cases fs with
    |nil=>simp at hone
    |cons f r=>rfl
   have hstH:=Lib.hid hst;clear hst g4 hg h h2;generalize fs[0]=f at*;obtain⟨fk,fc⟩:=f;rw[hone];simp only[Nat.zero_mul,Nat.add_zero]at c1 c2;have k1:=GW.cells (S:=[]) q0 (by simp);have k2:=GW.cell1 (S:=[]) c1 g2 (by simp);have k3:=GW.cell1 (S:=[]) c2 g2 (by simp);obtain⟨_,_,e1,e2,_⟩:=hgf;have hmul:len*wid (fk,fc)≤65536*65536:=Int.mul_le_mul h1 e2 (by omega) (by omega);have hmul0:0≤len*wid (fk,fc):=Int.mul_nonneg h0 (by omega);have hw:wrap64 (len*wid (fk,fc))=len*wid (fk,fc):=by
    generalize len*wid (fk,fc)=z at*;unfold wrap64;omega
   refine wp_region_pure (by kernel_rfl) (by kernel_rfl) ?_;refine stage_quiet 6 (by kernel_rfl) ?_;simp only[tA,tB,tC,tD];(repeat go_big_quiet_step (fail));refine wpQuiet_nil ?_;refine stage_pure 108 _ (.int .i64 (wid (fk,fc))) rfl Tryz.call108 rfl rfl (fun w' _=>width_ok fk fc w') ?_;simp only[Act.put,sA,sB,sC];refine stage_quiet 2 (by kernel_rfl) ?_;simp only[tA,tB,tC,tD];(repeat go_big_quiet_step (fail));refine wpQuiet_nil ?_;refine stage_nil fun w2 hm2=> ?_
   clear k1 k2 k3 c1 c2;go_wp2_with fail;go_ret;refine⟨?_,hm0.nil_then hm2⟩;rw[hstH.out];rfl
 ·have hgood:=hg;have hp1:=Lib.hid (places_ok v fs (-1) _ h' hg hl);obtain⟨x,y,z0,ho⟩:=outC_size fs (-1) fs.length;rw[ho]at hp1;go_wp2_with fail;refine hp1.out.mono ?_;rintro e w1 ⟨rfl,hm1⟩;go_wp2_with fail;go_ret;refine⟨?_,(hm0.nil_then hm1).alloc _⟩;unfold sizeT;rw[if_neg (by omega)];rfl
theorem check_ok (len:Int) (v:Value) (fs:List Fld) (w:World) (h:FieldsAt w v fs) (hn: -9223372036854775808≤len) (hn2:len≤9223372036854775807):
  Calls Tryz.prog 29 #[.agg #[.int .i64 len,v]] w fun e w'=>e=.returned (.int .i64 (errT len fs))∧Mod [] w w':=by
 have q0:=at_alloc w (.cells #[.int .i64 len,v] 25);have hm0:=(Mod.refl [] w).alloc (.cells #[.int .i64 len,v] 25);have h':=h.mod hm0;have hln:=fun ty w=>h.len ty w
 have hsm:=h.small;have hE:errT len fs=if len<0 then 3 else if 65536<len then 4 else if badT len fs then 3 else if 32<fs.length then 4 else if firstErr fs≠0 then firstErr fs else if 65536<sizeT len fs then 4 else 0:=rfl
 by_cases t1:len<0
 ·rw[if_pos t1]at hE;rw[hE];clear hE h h';go_enter Tryz.func29,Tryz.ntmps29;go_wp2_with fail;go_ret;exact⟨rfl,hm0⟩
 ·rw[if_neg t1]at hE;by_cases t2:65536<len
  ·rw[if_pos t2]at hE;rw[hE];clear hE h h';go_enter Tryz.func29,Tryz.ntmps29;go_wp2_with fail;go_ret;exact⟨rfl,hm0⟩
  ·rw[if_neg t2]at hE;by_cases t3:badT len fs
   ·rw[if_pos t3]at hE;rw[hE];clear hE h h';rcases t3 with⟨t3,t4⟩|⟨t3,t4⟩
    ·subst t3;rw[t4]at hln;go_enter Tryz.func29,Tryz.ntmps29;go_wp2_with fail;go_ret;exact⟨rfl,hm0⟩
    ·have t5:¬(len=0):=by omega
     go_enter Tryz.func29,Tryz.ntmps29;go_wp2_with fail;go_ret;exact⟨rfl,hm0⟩
   ·rw[if_neg t3]at hE;by_cases t4:32<fs.length
    ·rw[if_pos t4]at hE;rw[hE];clear hE h h';by_cases t5:len=0
     ·subst t5;have t6:((fs.length:Int)==0)=false:=by simp only[beq_eq_false_iff_ne];omega
      clear t3;go_enter Tryz.func29,Tryz.ntmps29;go_wp2_with fail;go_ret;exact⟨rfl,hm0⟩
     ·exact absurd (.inr ⟨by omega,by omega⟩) t3
    ·rw[if_neg t4]at hE;have hEH:=Lib.hid hE;clear hE;by_cases t5:len=0
     ·subst t5;have t6:((fs.length:Int)==0)=false:=by
       simp only[beq_eq_false_iff_ne];intro e;exact t3 (.inl ⟨rfl,by omega⟩)
      have t7:(0:Int)<0→fs.length=1:=fun h=>absurd h (by omega)
      clear t3;go_enter Tryz.func29,Tryz.ntmps29;go_wp2_with fail;have hT:=Lib.hid (t7);clear t6;generalize w.alloc (.cells #[.int .i64 (0),v] 25)=W at*;go_loopw [43] (fun i wr=>∃k:Nat,k≤fs.length∧i=.int .i64 k∧Mod [] W wr∧Good (fs.take k)) (fun i _=>fs.length-(intOf i).toNat)
      case atStart=>exact⟨0,by omega,rfl,Mod.refl _ _,by simp[Good]⟩
      case round=>
       obtain⟨k,hk,rfl,hm,hgk⟩:=hrel;by_cases hlt:k<fs.length
       ·rcases h' with⟨_,rfl⟩|⟨sb,so,cap,rfl,g2,g3,g4⟩
        ·simp at hlt
        ·have c1:=(cell_mod hm g2 (by simp)).trans (g4 k hlt).1;have c2:=(cell_mod hm g2 (by simp)).trans (g4 k hlt).2;have hfe:=firstErr_at hlt hgk;have hgs:=good_snoc hlt hgk;clear g4 hgk h;generalize fs[k]=f at*;obtain⟨fk,fc⟩:=f;simp only at c1 c2;go_wp2_with fail;refine(checkF_ok fk fc _).mono ?_;rintro e w1 ⟨rfl,hm1⟩;by_cases he:errF (fk,fc)=0
         ·have hgs:=hgs he;clear hfe c1 c2;rw[he];go_wp2_with fail;go_roundw
          case rel=>exact⟨k+1,by omega,by go_num,(hm.alloc _).nil_then hm1,hgs⟩
          case measure=>simp[intOf];omega
         ·have hfe:=hfe he;clear hgs c1 c2;go_wp2_with fail;go_ret;refine⟨?_,(hm0.nil_then (hm.alloc _)).nil_then hm1⟩;rw[hEH.out,hfe,if_pos he];rfl
       ·obtain rfl:k=fs.length:=by omega
        rw[List.take_length]at hgk;have hr:=hm.at q0 (by simp);have cb:=cells_of hr;have hfirst:=firstErr_good hgk;clear h;go_wp2_with fail;refine(size_ok (0) v fs _ (h'.mod hm) hgk (by omega) (by omega) (by omega) hT.out).mono ?_;rintro e w1 ⟨rfl,hm1⟩;by_cases hbig:65536<sizeT (0) fs
        ·go_wp2_with fail;go_ret;refine⟨?_,(hm0.nil_then hm).nil_then hm1⟩;rw[hEH.out,hfirst,if_neg (by simp),if_pos hbig];rfl
        ·go_wp2_with fail;go_ret;refine⟨?_,(hm0.nil_then hm).nil_then hm1⟩;rw[hEH.out,hfirst,if_neg (by simp),if_neg (by omega)];rfl
     ·have t60:fs.length=1:=by
       by_cases e:fs.length=1
       ·exact e
       ·exact absurd (.inr ⟨by omega,e⟩) t3
      have t7:0<len→fs.length=1:=fun _=>t60
      have t8:0<len:=by omega
      have t9:=Lib.hid t7;have t6:((fs.length:Int)==1)=true:=by simp[t60]
      clear t3 t7 t60;go_enter Tryz.func29,Tryz.ntmps29;go_wp2_with fail;have hT:=Lib.hid (t9.out);clear t6;generalize w.alloc (.cells #[.int .i64 (len),v] 25)=W at*;go_loopw [43] (fun i wr=>∃k:Nat,k≤fs.length∧i=.int .i64 k∧Mod [] W wr∧Good (fs.take k)) (fun i _=>fs.length-(intOf i).toNat)
      case atStart=>exact⟨0,by omega,rfl,Mod.refl _ _,by simp[Good]⟩
      case round=>
       obtain⟨k,hk,rfl,hm,hgk⟩:=hrel;by_cases hlt:k<fs.length
       ·rcases h' with⟨_,rfl⟩|⟨sb,so,cap,rfl,g2,g3,g4⟩
        ·simp at hlt
        ·have c1:=(cell_mod hm g2 (by simp)).trans (g4 k hlt).1;have c2:=(cell_mod hm g2 (by simp)).trans (g4 k hlt).2;have hfe:=firstErr_at hlt hgk;have hgs:=good_snoc hlt hgk;clear g4 hgk h;generalize fs[k]=f at*;obtain⟨fk,fc⟩:=f;simp only at c1 c2;go_wp2_with fail;refine(checkF_ok fk fc _).mono ?_;rintro e w1 ⟨rfl,hm1⟩;by_cases he:errF (fk,fc)=0
         ·have hgs:=hgs he;clear hfe c1 c2;rw[he];go_wp2_with fail;go_roundw
          case rel=>exact⟨k+1,by omega,by go_num,(hm.alloc _).nil_then hm1,hgs⟩
          case measure=>simp[intOf];omega
         ·have hfe:=hfe he;clear hgs c1 c2;go_wp2_with fail;go_ret;refine⟨?_,(hm0.nil_then (hm.alloc _)).nil_then hm1⟩;rw[hEH.out,hfe,if_pos he];rfl
       ·obtain rfl:k=fs.length:=by omega
        rw[List.take_length]at hgk;have hr:=hm.at q0 (by simp);have cb:=cells_of hr;have hfirst:=firstErr_good hgk;clear h;go_wp2_with fail;refine(size_ok (len) v fs _ (h'.mod hm) hgk (by omega) (by omega) (by omega) hT.out).mono ?_;rintro e w1 ⟨rfl,hm1⟩;by_cases hbig:65536<sizeT (len) fs
        ·go_wp2_with fail;go_ret;refine⟨?_,(hm0.nil_then hm).nil_then hm1⟩;rw[hEH.out,hfirst,if_neg (by simp),if_pos hbig];rfl
        ·go_wp2_with fail;go_ret;refine⟨?_,(hm0.nil_then hm).nil_then hm1⟩;rw[hEH.out,hfirst,if_neg (by simp),if_neg (by omega)];rfl
end Go.Proofs.YteidpgdfocjdbaaGreat.Ty
namespace Go.Proofs.YteidpgdfocjdbaaGreat.Ty
open Go Go.RowKit Go.Stg
theorem fields_one {w:World} {b:Nat} {k c:Int} {T:TypeId} {fr:Nat×Nat} (h:w.heap[b]? =some (.cells #[.int .i64 k,.int .i64 c] T fr)):FieldsAt w (.slice (some ⟨b,0,none⟩) 1 1) [(k,c)]:=by
 refine .inr ⟨b,0,1,rfl,lt_of h,by simp[maxLen],fun i hi=> ?_⟩;have:i=0:=by simpa using hi
 subst this;rw[cells_of h,cells_of h];exact⟨rfl,rfl⟩
theorem FieldsAt.modS {S:List Nat} {w w':World} {v:Value} {fs:List Fld} (h:FieldsAt w v fs) (hm:Mod S w w') (hS:∀x,v.ownBlock=some x→x∉S):FieldsAt w' v fs:=by
 rcases h with h|⟨sb,so,cap,rfl,h2,h3,h4⟩
 ·exact .inl h
 ·exact .inr ⟨sb,so,cap,rfl,hm.lt h2,h3,fun i hi=>⟨(cell_mod hm h2 (hS sb rfl)).trans (h4 i hi).1,(cell_mod hm h2 (hS sb rfl)).trans (h4 i hi).2⟩⟩
def fcells (fs:List Fld):List Value:=fs.flatMap fun f=>[.int .i64 f.1,.int .i64 f.2]
theorem fcells_length:∀fs:List Fld,(fcells fs).length=fs.length*2
 | []=>rfl
 |f::r=>by
  have:=fcells_length r;simp[fcells]at this⊢;omega
theorem fcells_at:∀(fs:List Fld) (i:Nat) (h:i<fs.length),(fcells fs)[i*2]? =some (.int .i64 fs[i].1)∧(fcells fs)[i*2+1]? =some (.int .i64 fs[i].2)
 | [],i,h=>by simp at h
 |f::r,0,_=>⟨rfl,rfl⟩
 |f::r,i+1,h=>by
  have e:fcells (f::r)=.int .i64 f.1:: .int .i64 f.2::fcells r:=rfl;have h1:(i+1)*2=i*2+2:=by omega
  have h2:i*2+2+1=i*2+1+2:=by omega
  rw[e,h1,h2];exact fcells_at r i (by simpa using h)
theorem fcells_snoc (fs:List Fld) (f:Fld):fcells (fs++[f])=fcells fs++[.int .i64 f.1,.int .i64 f.2]:=by simp[fcells]
theorem row_fields {w:World} {e base n:Nat} {v:Value} {fs:List Fld} (h:w.ownsRow base e 2 v n (fcells fs)) (hn:n=fs.length):FieldsAt w v fs:=by
 subst hn;rcases row_cases h with⟨rfl,h0,_⟩|⟨g,cap,rfl,_,hg,hc,hm,hat⟩
 ·exact .inl ⟨rfl,List.eq_nil_of_length_eq_zero h0⟩
 ·refine .inr ⟨g,0,cap,rfl,hg,by omega,fun i hi=> ?_⟩;rw[Nat.zero_add];exact⟨(hat _ (by omega)).trans (fcells_at fs i hi).1,(hat _ (by omega)).trans (fcells_at fs i hi).2⟩
theorem info_field:(Tryz.prog.info? 63).map (fun i=>(i.zero,i.size,i.bytes))=some (some (.agg #[.int .i64 0,.int .i64 0]),2,16):=by kernel_rfl
theorem cells2 (w:World) (a b:Value) (T:TypeId):∀j u,[a,b][j]? =some u→(w.alloc (.cells #[a,b] T)).cell? ((⟨w.heap.size,0,none⟩:Addr).add j)=some u:=by
 intro j u h;have hadd:(⟨w.heap.size,0,none⟩:Addr).add j=⟨w.heap.size,j,none⟩:=by unfold Addr.add;split<;>simp_all
 rw[hadd,cells_of (at_alloc w _)];simpa using h
end Go.Proofs.YteidpgdfocjdbaaGreat.Ty
namespace Go.Proofs.YteidpgdfocjdbaaGreat.Ty
open Go Go.RowKit Go.Stg
theorem add_at (b o j:Nat):(⟨b,o,none⟩:Addr).add j=⟨b,o+j,none⟩:=by unfold Addr.add;split<;>simp_all
def NumsAt (w:World) (v:Value) (xs:List Int):Prop:=
 (v=.slice none 0 0∧xs=[])∨∃sb so cap,v=.slice (some ⟨sb,so,none⟩) xs.length cap∧sb<w.heap.size∧xs.length≤maxLen∧xs.length≤cap∧
  ∀i (h:i<xs.length),w.cell? ⟨sb,so+i,none⟩=some (.int .u16 xs[i])∧0≤xs[i]∧xs[i]≤65535
theorem NumsAt.len {w0:World} {v:Value} {xs:List Int} (h:NumsAt w0 v xs) (ty:TypeId) (w:World):(Builtin.len_ #[22] ty #[v]).run Tryz.prog w=.ok (.int .i64 xs.length) w:=by
 rcases h with⟨rfl,rfl⟩|⟨sb,so,cap,rfl,_⟩<;>simp[Builtin.len_,run_underlying Tryz.underlying22,goInt]
theorem NumsAt.mod {S:List Nat} {w w':World} {v:Value} {xs:List Int} (h:NumsAt w v xs) (hm:Mod S w w') (hS:∀x,v.ownBlock=some x→x∉S):NumsAt w' v xs:=by
 rcases h with h|⟨sb,so,cap,rfl,h2,h3,h5,h4⟩
 ·exact .inl h
 ·exact .inr ⟨sb,so,cap,rfl,hm.lt h2,h3,h5,fun i hi=>⟨(cell_mod hm h2 (hS sb rfl)).trans (h4 i hi).1,(h4 i hi).2⟩⟩
theorem NumsAt.small {w:World} {v:Value} {xs:List Int} (h:NumsAt w v xs):xs.length≤9223372036854775807:=by
 rcases h with⟨_,rfl⟩|⟨_,_,_,_,_,h,_⟩
 ·simp
 ·exact h
def TapeAt (w:World) (b K A B:Nat):Prop:=
 ∃sv xs,∃pos:Nat,w.heap[b]? =some (.cells #[sv,.int .i64 pos] 90 (0,0))∧NumsAt w sv xs∧pos≤K∧sv.ownBlock≠some b∧(∀x,sv.ownBlock=some x→A≤x∧x<B)∧(A≤b∧b<B)∧B≤w.heap.size
theorem TapeAt.modS {S:List Nat} {w w':World} {b K A B:Nat} (h:TapeAt w b K A B) (hm:Mod S w w') (hS:∀x∈S,x<A∨B≤x):TapeAt w' b K A B:=by
 obtain⟨sv,xs,pos,h1,h2,h3,h4,h5,h6,h7⟩:=h;exact⟨sv,xs,pos,hm.at h1 (fun hb=>by have:=hS b hb;omega),h2.mod hm (fun x hx hb=>by have:=hS x hb;have:=h5 x hx;omega),h3,h4,h5,h6,Nat.le_trans h7 hm.size⟩
theorem TapeAt.up {w:World} {b K L A B:Nat} (h:TapeAt w b K A B) (hl:K≤L):TapeAt w b L A B:=by
 obtain⟨sv,xs,pos,t1,t2,t3,t4⟩:=h;exact⟨sv,xs,pos,t1,t2,Nat.le_trans t3 hl,t4⟩
theorem TapeAt.mod {w w':World} {b K A B:Nat} (h:TapeAt w b K A B) (hm:Mod [] w w'):TapeAt w' b K A B:=h.modS hm (by simp)
theorem TapeAt.lt {w:World} {b K A B:Nat} (h:TapeAt w b K A B):b<B∧B≤w.heap.size:=by
 obtain⟨sv,xs,pos,h1,h2,h3,h4,h5,h6,h7⟩:=h;exact⟨h6.2,h7⟩
theorem next_ok (b K A B:Nat) (n:Int) (hn:1≤n) (hn2:n≤100000) (w:World) (h:TapeAt w b K A B) (hK:K≤1000000):
  Calls Tryz.prog 26 #[.pointer (some ⟨b,0,none⟩),.int .i64 n] w fun e w'=>∃x:Int,e=.returned (.int .i64 x)∧0≤x∧x<n∧Mod [b] w w'∧TapeAt w' b (K+1) A B:=by
 obtain⟨sv,xs,pos,h1,h2,h3,h4,h8,h9,h10⟩:=h;have hln:=fun ty w=>h2.len ty w
 have hsm:=h2.small;have cb:=cells_of h1;have k1:=GW.cells (S:=[]) h1 (by simp);have ne0:(n==0)=false:=by simp only[beq_eq_false_iff_ne];omega
 go_enter Tryz.func26,Tryz.ntmps26;go_wp2_with fail;refine wp_region_pure (by kernel_rfl) (by kernel_rfl) ?_;refine stage_quiet 10 (by kernel_rfl) ?_;simp only[tA,tB,tC,tD];(repeat go_big_quiet_step (fail));refine wpQuiet_nil ?_;refine stage_nil fun w1 hm1=> ?_
 have r1:=hm1.at h1 (by simp);by_cases hp:pos<xs.length
 ·have h2K:=h2;rcases h2 with⟨_,rfl⟩|⟨sb,so,cap,rfl,g2,g3,g5,g4⟩
  ·simp at hp
  ·have h2H:=Lib.hid h2K;clear h2K;obtain⟨g4,g6,g7⟩:=g4 pos hp;have c1:=(cell_mod hm1 g2 (by simp)).trans g4;generalize xs[pos]=x at*;clear g4;have k1:=GW.cells (S:=[]) r1 (by simp);have k2:=GW.cell1 (S:=[]) c1 (hm1.lt g2) (by simp);go_wp2_with fail;refine wp_region_pure (by kernel_rfl) (by kernel_rfl) ?_;refine stage_quiet 12 (by kernel_rfl) ?_;simp only[tA,tB,tC,tD];(repeat go_big_quiet_step (fail));refine wpQuiet_nil ?_;refine stage_nil fun w2 hm2=> ?_
   have r2:=hm2.at r1 (by simp);have hm2:=hm1.nil_then hm2;clear k1 k2 c1 cb hm1;have cb:=cells_of r2;have fb:=frozen_of r2;go_wp2_with fail;go_ret;have e1:=Int.emod_nonneg x (show n≠0 by omega);have e2:=Int.emod_lt_of_pos x (show 0<n by omega);refine⟨x%n,?_,e1,e2,(hm2.mono (T:=[b]) (by simp)).setCell (p:=⟨b,1,none⟩) (.inl (by simp)) _,_,xs,pos+1,at_setCell (o:=1) r2,?_,by omega,h4,h8,h9,?_⟩
   ·rfl
   ·exact(NumsAt.mod (h2H.out) hm2 (by simp)).mod ((Mod.refl [b] w2).setCell (p:=⟨b,1,none⟩) (.inl (by simp)) _) (fun y hy hyb=>by
     have hyb':y=b:=by simpa using hyb
     subst hyb';exact h4 hy)
   ·have:=hm2.size;simp[World.setCell];omega
 ·clear cb;have cb:=cells_of r1;have fb:=frozen_of r1;have h2K:=Lib.hid h2;clear h2;go_wp2_with fail;go_ret;refine⟨0,rfl,by omega,by omega,(hm1.mono (T:=[b]) (by simp)).setCell (p:=⟨b,1,none⟩) (.inl (by simp)) _,_,xs,pos+1,at_setCell (o:=1) r1,?_,by omega,h4,h8,h9,Nat.le_trans h10 (by have:=hm1.size;simpa[World.setCell]using this)⟩;exact(NumsAt.mod (h2K.out) hm1 (by simp)).mod ((Mod.refl [b] w1).setCell (p:=⟨b,1,none⟩) (.inl (by simp)) _) (fun y hy hyb=>by
   have hyb':y=b:=by simpa using hyb
   subst hyb';exact h4 hy)
def Small (f:Fld):Prop:=1≤f.1∧f.1≤6∧(f.1=6→1≤f.2∧f.2≤9)∧(f.1≠6→f.2=0)
theorem field_ok (b K A B:Nat) (w:World) (h:TapeAt w b K A B) (hK:K≤900000):
  Calls Tryz.prog 27 #[.pointer (some ⟨b,0,none⟩)] w fun e w'=>∃k c:Int,e=.returned (.agg #[.int .i64 k,.int .i64 c])∧Small (k,c)∧Mod [b] w w'∧TapeAt w' b (K+2) A B:=by
 have hb:=h.lt;have q0:=at_alloc w (.cells #[.int .i64 0,.int .i64 0] 63);have hm0:=(Mod.refl [] w).alloc (.cells #[.int .i64 0,.int .i64 0] 63);have hN:=Lib.hid (next_ok b K A B 6 (by omega) (by omega) _ (h.mod hm0) (by omega));clear h;go_enter Tryz.func27,Tryz.ntmps27;go_wp2_with fail;refine hN.out.mono ?_;rintro e w1 ⟨x,rfl,x0,x1,hm1,hT1⟩;have q1:=hm1.at q0 (by simp;omega);have hm1:=(hm0.mono (T:=[b]) (by simp)).then hm1 (fun y hy=>.inl hy)
 have hlq:=lt_of q1;have hlb:=hT1.lt;clear q0 hm0 hN;by_cases h5:x=5
 ·subst h5;have p1:=at_alloc w1 (.cells #[.int .i64 6,.int .i64 0] 63);have q1:=at_alloc_old (o:=.cells #[.int .i64 6,.int .i64 0] 63) q1;have hm1:=hm1.alloc (.cells #[.int .i64 6,.int .i64 0] 63);have hT1:=hT1.mod ((Mod.refl [] w1).alloc (.cells #[.int .i64 6,.int .i64 0] 63));go_wp2_with fail;generalize hF:w1.heap.size=F at*;generalize w1.alloc (.cells #[.int .i64 6,.int .i64 0] 63)=W1 at*;have hN:=Lib.hid (next_ok b (K+1) A B 9 (by omega) (by omega) _ hT1 (by omega));refine hN.out.mono ?_;rintro e w2 ⟨y,rfl,y0,y1,hm2,hT2⟩;have p2:=hm2.at p1 (by simp;omega);have q2:=hm2.at q1 (by simp;omega);have hm2:=hm1.then hm2 (fun z hz=>.inl hz);have cp:=cells_of p2;have fp:=frozen_of p2;have cq:=cells_of q2;have fq:=frozen_of q2;clear hN hm1 hT1 p1 q1;have p3:=at_setCell (o:=1) (v:=.int .i64 (1+y)) p2;have q3:=at_setCell_other (a:=⟨F,1,none⟩) (v:=.int .i64 (1+y)) q2 (by show w.heap.size≠F;omega);have hm3:=hm2.setCell (p:=⟨F,1,none⟩) (.inr (by show w.heap.size≤F;omega)) (.int .i64 (1+y));have hT3:=hT2.modS ((Mod.refl [F] w2).setCell (p:=⟨F,1,none⟩) (.inl (by simp)) (.int .i64 (1+y))) (by simp;omega);have cq3:=cells_of q3;have fq3:=frozen_of q3;have cp3:=cells_of p3;clear hF;go_wp2_with fail;have q4:=at_setCell (o:=1) (v:=.int .i64 (1+y)) (at_setCell (o:=0) (v:=.int .i64 6) q3);have hm4:=(hm3.setCell (p:=⟨w.heap.size,0,none⟩) (.inr (Nat.le_refl _)) (.int .i64 6)).setCell (p:=⟨w.heap.size,1,none⟩) (.inr (Nat.le_refl _)) (.int .i64 (1+y));have hT4:=hT3.modS (((Mod.refl [w.heap.size] _).setCell (p:=⟨w.heap.size,0,none⟩) (.inl (by simp)) (.int .i64 6)).setCell (p:=⟨w.heap.size,1,none⟩) (.inl (by simp)) (.int .i64 (1+y))) (by simp;omega);have c4:=cells_of q4;refine bodyPost_ret (v:=.agg #[.int .i64 6,.int .i64 (1+y)]) ?_ rfl ⟨6,1+y,rfl,⟨by omega,by omega,fun _=>⟨by omega,by omega⟩,fun h=>absurd rfl h⟩,hm4,hT4⟩;simp[results,Tryz.results27,go_sem,c4]
 ·have h6:((1+x:Int)==6)=false:=by simp only[beq_eq_false_iff_ne];omega
  have cq:=cells_of q1;have fq:=frozen_of q1;have q2:=at_setCell (o:=0) (v:=.int .i64 (1+x)) q1;have cq2:=cells_of q2;have fq2:=frozen_of q2;go_wp2_with fail;have q4:=at_alloc_old (o:=.cells #[.int .i64 (1+x),.int .i64 0] 63) (at_setCell (o:=1) (v:=.int .i64 0) q2);have hm4:=((hm1.setCell (p:=⟨w.heap.size,0,none⟩) (.inr (Nat.le_refl _)) (.int .i64 (1+x))).setCell (p:=⟨w.heap.size,1,none⟩) (.inr (Nat.le_refl _)) (.int .i64 0)).alloc (.cells #[.int .i64 (1+x),.int .i64 0] 63);have hT4:=hT1.modS ((((Mod.refl [w.heap.size] _).setCell (p:=⟨w.heap.size,0,none⟩) (.inl (by simp)) (.int .i64 (1+x))).setCell (p:=⟨w.heap.size,1,none⟩) (.inl (by simp)) (.int .i64 0)).alloc (.cells #[.int .i64 (1+x),.int .i64 0] 63)) (by simp;omega);have hT5:=hT4.up (L:=K+2) (by omega);have c4:=cells_of q4;refine bodyPost_ret (v:=.agg #[.int .i64 (1+x),.int .i64 0]) ?_ rfl ⟨1+x,0,rfl,⟨by omega,by omega,fun(h:1+x=6)=>absurd h (by omega),fun _=>rfl⟩,hm4,hT5⟩;simp[results,Tryz.results27,go_sem,c4]
def SliceIn (w:World) (sv:Value) (cs:List Value):Prop:=
 (sv=.slice none 0 0∧cs=[])∨∃sb so cap,sv=.slice (some ⟨sb,so,none⟩) cs.length cap∧sb<w.heap.size∧∀j u,cs[j]? =some u→w.cell? ⟨sb,so+j,none⟩=some u
section
variable {P:Program}
theorem run_append_in (w:World) (t ty e:TypeId) (i:TypeInfo) (z:Value) (bytes:Nat) (ht:P.underlying t=some (.slice e)) (hi:P.info? e=some i) (hz:i.zero=some z)
  (hsize:i.size=1) (hby:i.bytes=bytes) (hzs:z.cells.size=1)
  (v:Value) (n:Nat) (xs:List Value) (hown:w.ownsRow 0 e 1 v n xs)
  (sv:Value) (news:List Value) (hin:SliceIn w sv news) (h1:∀u∈news,u.oneCell'=true)
  (h63:n+news.length≤maxLen) (hbytes:(n+news.length)*bytes≤140737488355328):
  ∃v' w',(Builtin.append_ #[t,t] ty #[v,sv]).run P w=.ok v' w'∧w'.ownsRow 0 e 1 v' (n+news.length) (xs++news)∧w.grownBy w' v.ownBlock∧∀x,v'.ownBlock=some x→v.ownBlock=some x∨w.heap.size≤x:=by
 rcases hin with⟨rfl,rfl⟩|⟨sb,so,cap,rfl,_,hc⟩
 ·exact⟨v,w,run_append_owned_none w 0 t ty e i 1 ht hi v n xs hown,by simpa using hown,⟨rfl,rfl,rfl,Nat.le_refl _,fun _ _ _=>rfl⟩,fun x hx=>.inl hx⟩
 ·exact run_append_row (P:=P) w t ty e i z 1 bytes ht hi hz hsize hby hzs (by decide) v n xs hown ⟨sb,so,none⟩ news.length cap news (by simp) (fun j u hj=>by rw[add_at];exact hc j u hj) h1 h63 hbytes
theorem wpList_append_in (w:World) {ops:Array Oper} {rest:List Oper} {o:Oper} {a:Act} {Q:Exit→Act→World→Prop} (hgd:o.guard=none) (s x:Operand) (t:TypeId)
  (ho:o.op=.call {callee:=.builtin .append,args:=#[s,x],argTypes:=#[t,t]})
  (e:TypeId) (i:TypeInfo) (z:Value) (bytes:Nat) (ht:P.underlying t=some (.slice e)) (hi:P.info? e=some i) (hz:i.zero=some z)
  (hsize:i.size=1) (hby:i.bytes=bytes) (hzs:z.cells.size=1)
  (v:Value) (n:Nat) (xs:List Value) (hs:a.eval s=v) (hown:w.ownsRow 0 e 1 v n xs)
  (sv:Value) (news:List Value) (hx:a.eval x=sv) (hin:SliceIn w sv news) (h1:∀u∈news,u.oneCell'=true)
  (h63:n+news.length≤maxLen) (hbytes:(n+news.length)*bytes≤140737488355328)
  (h:∀v' w',w'.ownsRow 0 e 1 v' (n+news.length) (xs++news)→w.grownBy w' v.ownBlock→(∀x,v'.ownBlock=some x→v.ownBlock=some x∨w.heap.size≤x)→wpList P ops Q rest (a.put o.dst v') w'):wpList P ops Q (o::rest) a w:=by
 refine wpList_plain hgd fun K hK=> ?_
 obtain⟨v',w',hr,h2,h3,h4⟩:=run_append_in (P:=P) w t o.type e i z bytes ht hi hz hsize hby hzs v n xs hown sv news hin h1 h63 hbytes;unfold Oper.wp execOp;simp only[ho,resolve,invoke,builtin,Sem.run_bind,Sem.run_pure,Result.andThen_ok,List.map_toArray,List.map_cons,List.map_nil,hs,hx,hr];exact hK _ _ (h v' w' h2 h3 h4)
end
theorem info_u16:(Tryz.prog.info? 157).map (fun i=>(i.zero,i.size,i.bytes))=some (some (.int .u16 0),1,2):=by kernel_rfl
theorem row_slice {w:World} {e base sz n:Nat} {v:Value} {xs:List Value} (h:w.ownsRow base e sz v n xs):∃a m c,v=.slice a m c:=by
 rcases row_cases h with⟨h,_⟩|⟨g,cap,h,_⟩
 ·exact⟨_,_,_,h⟩
 ·exact⟨_,_,_,h⟩
theorem row_nums {w:World} {v:Value} {xs:List Int} {base n:Nat} (h:w.ownsRow base 157 1 v n (xs.map (.int .u16))) (hn:n=xs.length) (hx:∀x∈xs,0≤x∧x≤65535):NumsAt w v xs:=by
 subst hn;rcases row_cases h with⟨rfl,h0,_⟩|⟨g,cap,rfl,_,hg,hc,hm,hat⟩
 ·exact .inl ⟨rfl,List.eq_nil_of_length_eq_zero h0⟩
 ·refine .inr ⟨g,0,cap,rfl,hg,by omega,hc,fun i hi=>⟨?_,hx _ (List.getElem_mem hi)⟩⟩;have hcc:=hat i (by omega);rw[List.getElem?_map,List.getElem?_eq_getElem hi]at hcc;rw[Nat.zero_add];exact hcc
theorem of_ok (v:Value) (xs:List Int) (most:Nat) (hmost:most≤1000) (w:World) (h:NumsAt w v xs):
  Calls Tryz.prog 7 #[v,.int .i64 most] w fun e w'=>∃b,e=.returned (.pointer (some ⟨b,0,none⟩))∧Mod [] w w'∧TapeAt w' b 0 w.heap.size w'.heap.size∧w.heap.size≤b:=by
 obtain⟨i0,hi0,hz0,hz1,hz2⟩:=info_parts info_u16;have hln:=fun ty w=>h.len ty w
 have hsm:=h.small;have hx:∀x∈xs,0≤x∧x≤65535:=by
  rcases h with⟨_,rfl⟩|⟨_,_,_,_,_,_,_,h4⟩
  ·simp
  ·intro x hx;obtain⟨i,hi,rfl⟩:=List.mem_iff_getElem.1 hx;exact(h4 i hi).2
 have hown:(w.alloc (.cells #[] 157 (0,0))).ownsRow 0 157 1 (.slice (some ⟨w.heap.size,0,none⟩) 0 0) 0 []:=World.ownsRow_made w #[] 0 (Nat.zero_le _) (Nat.zero_le _) rfl;have hmA:=(Mod.refl [] w).alloc (.cells #[] 157 (0,0));have hA:=h.mod hmA (by simp);have fin:∀(ys:List Int) (sv':Value) (w1:World),(∀x∈ys,0≤x∧x≤65535)→w1.ownsRow 0 157 1 sv' ys.length (ys.map (.int .u16))→(w.alloc (.cells #[] 157 (0,0))).grownBy w1 (some w.heap.size)→(∀x,sv'.ownBlock=some x→(Value.slice (some ⟨w.heap.size,0,none⟩) 0 0).ownBlock=some x∨(w.alloc (.cells #[] 157 (0,0))).heap.size≤x)→
   Mod [] w (w1.alloc (.cells #[sv',.int .i64 0] 90))∧TapeAt (w1.alloc (.cells #[sv',.int .i64 0] 90)) w1.heap.size 0 w.heap.size (w1.alloc (.cells #[sv',.int .i64 0] 90)).heap.size∧w.heap.size≤w1.heap.size:=by
  intro ys sv' w1 hys hr hg hfr;have hge:∀x,sv'.ownBlock=some x→w.heap.size≤x:=fun x hx=>by
   rcases hfr x hx with h|h
   ·have h':some w.heap.size=some x:=h;have:=Option.some.inj h';omega
   ·simp at h;omega
  have hm1:Mod [] w w1:=hmA.grown hg (fun k hk=>.inr (by have:=Option.some.inj hk;omega));have hlt:∀x,sv'.ownBlock=some x→x<w1.heap.size:=fun x hx=>(hr.lt x hx).2
  refine⟨hm1.alloc _,⟨sv',ys,0,at_alloc _ _,(row_nums hr rfl hys).mod ((Mod.refl [] w1).alloc _) (by simp),Nat.le_refl _,fun e=>by have:=hlt _ e;omega,fun x hx=> ?_,?_,Nat.le_refl _⟩,hm1.size⟩
  ·have:=hlt x hx;have:=hge x hx;rw[World.size_alloc];omega
  ·have:=hm1.size;rw[World.size_alloc];omega
 have finH:=Lib.hid fin;clear fin;by_cases hgt:most<xs.length
 ·rcases hA with⟨_,rfl⟩|⟨sb,so,cap,rfl,g2,g3,g5,g4⟩
  ·simp at hgt
  ·have hin:SliceIn (w.alloc (.cells #[] 157 (0,0))) (.slice (some ⟨sb,so,none⟩) most cap) ((xs.take most).map (Value.int .u16)):=by
    refine .inr ⟨sb,so,cap,by simp;omega,g2,fun j u hj=> ?_⟩;rw[List.getElem?_map]at hj;obtain⟨s,hs,rfl⟩:=Option.map_eq_some_iff.1 hj;obtain⟨hj,e⟩:=List.getElem?_eq_some_iff.1 hs;rw[←e,List.getElem_take];exact(g4 j (by rw[List.length_take]at hj;omega)).1
   have hlt:((xs.take most).map (Value.int .u16)).length=most:=by simp;omega
   have hx':∀x∈xs.take most,0≤x∧x≤65535:=fun x hx0=>hx x (List.mem_of_mem_take hx0)
   clear h g4 hx;go_enter Tryz.func7,Tryz.ntmps7;go_wp2_with (first|(at_builtin;refine wpList_append_in _ rfl _ _ 22 rfl 157 i0 (.int .u16 0) 2 Tryz.underlying22 hi0 hz0 hz1 hz2 rfl (.slice (some ⟨w.heap.size,0,none⟩) 0 0) 0 [] rfl hown _ _ rfl hin (by intro u hu;rw[List.mem_map]at hu;obtain⟨y,_,rfl⟩:=hu;rfl) (by rw[hlt];unfold maxLen;omega) (by rw[hlt];omega) ?_;intro sv' w1 hown1 hgrow hfr;simp only[Nat.zero_add,List.nil_append,hlt]at hown1;obtain⟨ya,yn,yc,rfl⟩:=row_slice hown1));go_ret;have hty:(xs.take most).length=most:=by rw[List.length_take];omega
   exact⟨_,rfl,finH.out (xs.take most) _ w1 hx' (by rw[hty];exact hown1) hgrow hfr⟩
 ·have hin:SliceIn (w.alloc (.cells #[] 157 (0,0))) v (xs.map (Value.int .u16)):=by
   rcases hA with⟨rfl,rfl⟩|⟨sb,so,cap,rfl,g2,g3,g5,g4⟩
   ·exact .inl ⟨rfl,rfl⟩
   ·refine .inr ⟨sb,so,cap,by simp,g2,fun j u hj=> ?_⟩;rw[List.getElem?_map]at hj;obtain⟨s,hs,rfl⟩:=Option.map_eq_some_iff.1 hj;obtain⟨hj,e⟩:=List.getElem?_eq_some_iff.1 hs;rw[←e];exact(g4 j hj).1
  have hlt:(xs.map (Value.int .u16)).length=xs.length:=by simp
  clear h hA;go_enter Tryz.func7,Tryz.ntmps7;go_wp2_with (first|(at_builtin;refine wpList_append_in _ rfl _ _ 22 rfl 157 i0 (.int .u16 0) 2 Tryz.underlying22 hi0 hz0 hz1 hz2 rfl (.slice (some ⟨w.heap.size,0,none⟩) 0 0) 0 [] rfl hown _ _ rfl hin (by intro u hu;rw[List.mem_map]at hu;obtain⟨y,_,rfl⟩:=hu;rfl) (by rw[hlt];unfold maxLen;omega) (by rw[hlt];omega) ?_;intro sv' w1 hown1 hgrow hfr;simp only[Nat.zero_add,List.nil_append,hlt]at hown1;obtain⟨ya,yn,yc,rfl⟩:=row_slice hown1));go_ret;exact⟨_,rfl,finH.out xs _ w1 hx hown1 hgrow hfr⟩
end Go.Proofs.YteidpgdfocjdbaaGreat.Ty
