/- Joined contracts. No conditions. -/
import Derived.Laws.OwnMore
import Derived.Test.YteidpgdfocjdbaaGreatCS
import Derived.Test.YteidpgdfocjdbaaGreatC08
import Derived.Test.YteidpgdfocjdbaaGreatC09
set_option maxHeartbeats 4000000
set_option maxRecDepth 10000
namespace Go.Proofs.YteidpgdfocjdbaaGreat.Ty
open Go Go.RowKit Go.Stg
theorem firstErr_zero {fs:List Fld} (h:firstErr fs=0):Good fs:=by
 induction fs with
 |nil=>intro f hf;simp at hf
 |cons f r ih=>
  unfold firstErr at h;by_cases he:errF f=0
  ·rw[if_neg (by simp[he])]at h;intro g hg;rcases List.mem_cons.1 hg with rfl|hg
   ·exact he
   ·exact ih h g hg
  ·rw[if_pos he]at h;exact absurd h he
theorem errT_zero {len:Int} {fs:List Fld} (h:errT len fs=0):0≤len∧len≤65536∧fs.length≤32∧Good fs∧sizeT len fs≤65536∧(0<len→fs.length=1)∧(len=0→0<fs.length):=by
 unfold errT at h;split at h
 ·simp at h
 ·split at h
  ·simp at h
  ·split at h
   ·simp at h
   ·rename_i hb;split at h
    ·simp at h
    ·split at h
     ·rename_i h5;exact absurd h h5
     ·rename_i h5;split at h
      ·simp at h
      ·have hg:=firstErr_zero (Decidable.byContradiction h5);refine⟨by omega,by omega,by omega,hg,by omega,fun hp=> ?_,fun h0=> ?_⟩
       ·exact Decidable.byContradiction fun hc=>hb (.inr ⟨hp,hc⟩)
       ·exact Nat.pos_of_ne_zero fun hc=>hb (.inl ⟨h0,hc⟩)
def countT (len:Int) (fs:List Fld):Int:=if errT len fs=0 then(if 0<len then len else fs.length)else 0
def sizeV (len:Int) (fs:List Fld):Value:=.tuple #[.int .i64 (if errT len fs=0 then sizeT len fs else 0),.int .i64 (errT len fs)]
def placeC (len:Int) (fs:List Fld) (i:Int):Array Value:=
 if errT len fs=0∧0≤i∧i<countT len fs then(if 0<len then #[.int .i64 (i*wid (hd fs)),.int .i64 (wid (hd fs)),.int .i64 (hd fs).1]else outC fs i fs.length)else #[.int .i64 0,.int .i64 0,.int .i64 0]
def placeE (len:Int) (fs:List Fld) (i:Int):Int:=if errT len fs=0 then(if 0≤i∧i<countT len fs then 0 else 6)else errT len fs
def placeV (len:Int) (fs:List Fld) (i:Int):Value:=.tuple #[.agg (placeC len fs i),.int .i64 (placeE len fs i)]
theorem hd_eq {fs:List Fld} (h:fs.length=1):hd fs=fs[0]'(by omega):=by
 cases fs with
 |nil=>simp at h
 |cons f r=>rfl
section
variable (len:Int) (v:Value) (fs:List Fld) (w:World) (h:FieldsAt w v fs) (hn: -9223372036854775808≤len) (hn2:len≤9223372036854775807)
include h hn hn2
theorem count_ok:Calls Tryz.prog 129 #[.agg #[.int .i64 len,v]] w fun e w'=>e=.returned (.int .i64 (countT len fs))∧Mod [] w w':=by
 have q0:=at_alloc w (.cells #[.int .i64 len,v] 25);have hm0:=(Mod.refl [] w).alloc (.cells #[.int .i64 len,v] 25);have h':=h.mod hm0;have hln:=fun ty w=>h.len ty w
 have hE:=Lib.hid fun(w':World) (hm:Mod [] w w')=>check_ok len v fs w' (h.mod hm) hn hn2
 clear h;go_enter Tryz.func129,Tryz.ntmps129;go_wp2_with fail;refine(hE.out _ hm0).mono ?_;rintro e w1 ⟨rfl,hm1⟩;have q1:=hm1.at q0 (by simp);have h1:=h'.mod hm1;have cb:=cells_of q1;have hm1:=hm0.nil_then hm1;clear q0 hm0 h';by_cases he:errT len fs=0
 ·rw[he];by_cases hp:0<len
  ·go_wp2_with fail;go_ret;refine⟨?_,hm1⟩;simp[countT,he,hp]
  ·go_wp2_with fail;go_ret;refine⟨?_,hm1⟩;simp only[countT,if_pos he,if_neg (show¬(0<len) by omega)];rfl
 ·go_wp2_with fail;go_ret;refine⟨?_,hm1⟩;simp[countT,he]
theorem sizeF_ok:Calls Tryz.prog 38 #[.agg #[.int .i64 len,v]] w fun e w'=>e=.returned (sizeV len fs)∧Mod [] w w':=by
 have q0:=at_alloc w (.cells #[.int .i64 len,v] 25);have hm0:=(Mod.refl [] w).alloc (.cells #[.int .i64 len,v] 25);have h':=h.mod hm0;have hln:=fun ty w=>h.len ty w
 have hE:=Lib.hid fun(w':World) (hm:Mod [] w w')=>check_ok len v fs w' (h.mod hm) hn hn2
 clear h;go_enter Tryz.func38,Tryz.ntmps38;go_wp2_with fail;refine(hE.out _ hm0).mono ?_;rintro e w1 ⟨rfl,hm1⟩;have q1:=hm1.at q0 (by simp);have h1:=h'.mod hm1;have cb:=cells_of q1;have hm1:=hm0.nil_then hm1;clear q0 hm0 h';by_cases he:errT len fs=0
 ·obtain⟨e1,e2,e3,e4,e5,e6,e7⟩:=errT_zero he;have hS:=Lib.hid (size_ok len v fs _ h1 e4 (by omega) e1 e2 e6);clear e6 e7;rw[he];go_wp2_with fail;refine hS.out.mono ?_;rintro e w2 ⟨rfl,hm2⟩;go_wp2_with fail;go_ret2;refine⟨?_,hm1.nil_then hm2⟩;simp[sizeV,he]
 ·go_wp2_with fail;go_ret2;refine⟨?_,hm1⟩;simp[sizeV,he]
end
theorem place_ok (len:Int) (v:Value) (fs:List Fld) (i:Int) (w:World) (h:FieldsAt w v fs) (hn: -9223372036854775808≤len) (hn2:len≤9223372036854775807):
  Calls Tryz.prog 96 #[.agg #[.int .i64 len,v],.int .i64 i] w fun e w'=>e=.returned (placeV len fs i)∧Mod [] w w':=by
 have hln:=fun ty w=>h.len ty w
 have hE:=Lib.hid fun(w':World) (hm:Mod [] w w')=>check_ok len v fs w' (h.mod hm) hn hn2
 have hC:=Lib.hid fun(w':World) (hm:Mod [] w w')=>count_ok len v fs w' (h.mod hm) hn hn2
 have q0:=at_alloc_old (o:=.cells #[.int .i64 0,.int .i64 0,.int .i64 0] 121) (at_alloc w (.cells #[.int .i64 len,v] 25));have q1:=at_alloc (w.alloc (.cells #[.int .i64 len,v] 25)) (.cells #[.int .i64 0,.int .i64 0,.int .i64 0] 121);rw[World.size_alloc]at q1;have hm0:=((Mod.refl [] w).alloc (.cells #[.int .i64 len,v] 25)).alloc (.cells #[.int .i64 0,.int .i64 0,.int .i64 0] 121);have h':=h.mod hm0;clear h;go_enter Tryz.func96,Tryz.ntmps96;go_wp2_with fail;refine(hE.out _ hm0).mono ?_;rintro e w1 ⟨rfl,hm1⟩;have p0:=hm1.at q0 (by simp);have p1:=hm1.at q1 (by simp);have h1:=h'.mod hm1;have cb:=cells_of p0;have cr:=cells_of p1;have fr:=frozen_of p1;have hm1:=hm0.nil_then hm1;clear q0 q1 hm0 h';by_cases he:errT len fs=0
 ·obtain⟨e1,e2,e3,e4,e5,e6,e7⟩:=errT_zero he;have hcT:countT len fs=if 0<len then len else fs.length:=by simp[countT,he]
  have hone:=Lib.hid e6;clear e6 e7;rw[he];by_cases hi0:i<0
  ·have hV:placeV len fs i=.tuple #[.agg #[.int .i64 0,.int .i64 0,.int .i64 0],.int .i64 6]:=by
    have t1:¬(0≤i∧i<countT len fs):=by omega
    have t2:¬(errT len fs=0∧0≤i∧i<countT len fs):=fun h=>t1 h.2
    unfold placeV placeC placeE;rw[if_neg t2,if_pos he,if_neg t1]
   go_wp2_with fail;have rr:=at_setCell (o:=2) (v:=.int .i64 0) (at_setCell (o:=1) (v:=.int .i64 0) (at_setCell (o:=0) (v:=.int .i64 0) p1));have mm:=((hm1.setCell (p:=⟨w.heap.size+1,0,none⟩) (.inr (by show w.heap.size≤w.heap.size+1;omega)) (.int .i64 0)).setCell (p:=⟨w.heap.size+1,1,none⟩) (.inr (by show w.heap.size≤w.heap.size+1;omega)) (.int .i64 0)).setCell (p:=⟨w.heap.size+1,2,none⟩) (.inr (by show w.heap.size≤w.heap.size+1;omega)) (.int .i64 0);have cc:=cells_of rr;refine bodyPost_ret (v:=.tuple #[.agg #[.int .i64 0,.int .i64 0,.int .i64 0],.int .i64 6]) ?_ rfl ⟨by first|rfl|rw[hV],mm⟩;simp[results,Tryz.results96,go_sem,cc]
  ·go_wp2_with fail;refine(hC.out _ hm1).mono ?_;rintro e w2 ⟨rfl,hm2⟩;have p0:=hm2.at p0 (by simp);have p1:=hm2.at p1 (by simp);have h1:=h1.mod hm2;have hm2:=hm1.nil_then hm2;clear hm1 cb cr fr;have cb:=cells_of p0;have cr:=cells_of p1;have fr:=frozen_of p1;by_cases hi1:i<countT len fs
   ·by_cases hp:0<len
    ·have hone1:=hone.out hp;rw[if_pos hp]at hcT;rcases h1 with⟨_,rfl⟩|⟨sb,so,cap,rfl,g2,g3,g4⟩
     ·simp at hone1
     ·have c1:=(g4 0 (by omega)).1;have c2:=(g4 0 (by omega)).2;have hgf:=good_of (e4 fs[0] (List.getElem_mem (by omega)));have hV:placeV len fs i=.tuple #[.agg #[.int .i64 (i*wid fs[0]),.int .i64 (wid fs[0]),.int .i64 fs[0].1],.int .i64 0]:=by
       have t1:0≤i∧i<countT len fs:=⟨by omega,hi1⟩;have t2:errT len fs=0∧0≤i∧i<countT len fs:=⟨he,t1⟩;unfold placeV placeC placeE;rw[if_pos t2,if_pos hp,if_pos he,if_pos t1,hd_eq hone1]
      clear g4 e4;generalize fs[0]=f at*;obtain⟨fk,fc⟩:=f;simp only[Nat.zero_mul,Nat.add_zero]at c1 c2;obtain⟨_,_,f1,f2,_⟩:=hgf;have hmul:i*wid (fk,fc)≤65536*65536:=Int.mul_le_mul (by omega) f2 (by omega) (by omega);have hmul0:0≤i*wid (fk,fc):=Int.mul_nonneg (by omega) (by omega);have hw:wrap64 (i*wid (fk,fc))=i*wid (fk,fc):=by
       generalize i*wid (fk,fc)=z at*;unfold wrap64;omega
      rw[hcT];rw[hcT]at hi1;clear hmul hmul0;go_wp2_with fail;refine(width_ok fk fc _).mono ?_;rintro e w3 ⟨rfl,hm3⟩;have p0:=hm3.at p0 (by simp);have p1:=hm3.at p1 (by simp);have c1:=(cell_mod hm3 g2 (by simp)).trans c1;have hm3:=hm2.nil_then hm3;clear hm2 cb cr fr c2;have cb:=cells_of p0;have cr:=cells_of p1;have fr:=frozen_of p1;go_wp2_with fail;have rr:=at_setCell (o:=2) (v:=.int .i64 fk) (at_setCell (o:=1) (v:=.int .i64 (wid (fk,fc))) (at_setCell (o:=0) (v:=.int .i64 (i*wid (fk,fc))) p1));have mm:=((hm3.setCell (p:=⟨w.heap.size+1,0,none⟩) (.inr (by show w.heap.size≤w.heap.size+1;omega)) (.int .i64 (i*wid (fk,fc)))).setCell (p:=⟨w.heap.size+1,1,none⟩) (.inr (by show w.heap.size≤w.heap.size+1;omega)) (.int .i64 (wid (fk,fc)))).setCell (p:=⟨w.heap.size+1,2,none⟩) (.inr (by show w.heap.size≤w.heap.size+1;omega)) (.int .i64 fk);have cc:=cells_of rr;refine bodyPost_ret (v:=.tuple #[.agg #[.int .i64 (i*wid (fk,fc)),.int .i64 (wid (fk,fc)),.int .i64 fk],.int .i64 0]) ?_ rfl ⟨by first|rfl|rw[hV],mm⟩;simp[results,Tryz.results96,go_sem,cc]
    ·rw[if_neg hp]at hcT;have hP:=Lib.hid (places_ok v fs i _ h1 e4 (by omega));obtain⟨x,y,z0,ho⟩:=outC_size fs i fs.length;have hV:placeV len fs i=.tuple #[.agg #[.int .i64 x,.int .i64 y,.int .i64 z0],.int .i64 0]:=by
      have t1:0≤i∧i<countT len fs:=⟨by omega,hi1⟩;have t2:errT len fs=0∧0≤i∧i<countT len fs:=⟨he,t1⟩;unfold placeV placeC placeE;rw[if_pos t2,if_neg hp,if_pos he,if_pos t1,ho]
     rw[ho]at hP;clear e4 ho;go_wp2_with fail;refine hP.out.mono ?_;rintro e w3 ⟨rfl,hm3⟩;have p1:=hm3.at p1 (by simp);have hm3:=hm2.nil_then hm3;clear hm2 cb cr fr p0;have p1:=at_alloc_old (o:=.cells #[.int .i64 x,.int .i64 y,.int .i64 z0] 121) p1;have hm3:=hm3.alloc (.cells #[.int .i64 x,.int .i64 y,.int .i64 z0] 121);have cr:=cells_of p1;have fr:=frozen_of p1;have hlt3:=lt_of p1;rw[World.size_alloc]at hlt3;go_wp2_with fail;have rr:=at_setCell (o:=2) (v:=.int .i64 z0) (at_setCell (o:=1) (v:=.int .i64 y) (at_setCell (o:=0) (v:=.int .i64 x) p1));have mm:=((hm3.setCell (p:=⟨w.heap.size+1,0,none⟩) (.inr (by show w.heap.size≤w.heap.size+1;omega)) (.int .i64 x)).setCell (p:=⟨w.heap.size+1,1,none⟩) (.inr (by show w.heap.size≤w.heap.size+1;omega)) (.int .i64 y)).setCell (p:=⟨w.heap.size+1,2,none⟩) (.inr (by show w.heap.size≤w.heap.size+1;omega)) (.int .i64 z0);have cc:=cells_of rr;refine bodyPost_ret (v:=.tuple #[.agg #[.int .i64 x,.int .i64 y,.int .i64 z0],.int .i64 0]) ?_ rfl ⟨by first|rfl|rw[hV],mm⟩;simp[results,Tryz.results96,go_sem,cc]
   ·have hV:placeV len fs i=.tuple #[.agg #[.int .i64 0,.int .i64 0,.int .i64 0],.int .i64 6]:=by
     have t1:¬(0≤i∧i<countT len fs):=by omega
     have t2:¬(errT len fs=0∧0≤i∧i<countT len fs):=fun h=>t1 h.2
     unfold placeV placeC placeE;rw[if_neg t2,if_pos he,if_neg t1]
    clear hcT;go_wp2_with fail;have rr:=at_setCell (o:=2) (v:=.int .i64 0) (at_setCell (o:=1) (v:=.int .i64 0) (at_setCell (o:=0) (v:=.int .i64 0) p1));have mm:=((hm2.setCell (p:=⟨w.heap.size+1,0,none⟩) (.inr (by show w.heap.size≤w.heap.size+1;omega)) (.int .i64 0)).setCell (p:=⟨w.heap.size+1,1,none⟩) (.inr (by show w.heap.size≤w.heap.size+1;omega)) (.int .i64 0)).setCell (p:=⟨w.heap.size+1,2,none⟩) (.inr (by show w.heap.size≤w.heap.size+1;omega)) (.int .i64 0);have cc:=cells_of rr;refine bodyPost_ret (v:=.tuple #[.agg #[.int .i64 0,.int .i64 0,.int .i64 0],.int .i64 6]) ?_ rfl ⟨by first|rfl|rw[hV],mm⟩;simp[results,Tryz.results96,go_sem,cc]
 ·have hV:placeV len fs i=.tuple #[.agg #[.int .i64 0,.int .i64 0,.int .i64 0],.int .i64 (errT len fs)]:=by
   have t2:¬(errT len fs=0∧0≤i∧i<countT len fs):=fun h=>he h.1
   unfold placeV placeC placeE;rw[if_neg t2,if_neg he]
  go_wp2_with fail;have rr:=at_setCell (o:=2) (v:=.int .i64 0) (at_setCell (o:=1) (v:=.int .i64 0) (at_setCell (o:=0) (v:=.int .i64 0) p1));have mm:=((hm1.setCell (p:=⟨w.heap.size+1,0,none⟩) (.inr (by show w.heap.size≤w.heap.size+1;omega)) (.int .i64 0)).setCell (p:=⟨w.heap.size+1,1,none⟩) (.inr (by show w.heap.size≤w.heap.size+1;omega)) (.int .i64 0)).setCell (p:=⟨w.heap.size+1,2,none⟩) (.inr (by show w.heap.size≤w.heap.size+1;omega)) (.int .i64 0);have cc:=cells_of rr;refine bodyPost_ret (v:=.tuple #[.agg #[.int .i64 0,.int .i64 0,.int .i64 0],.int .i64 (errT len fs)]) ?_ rfl ⟨by first|rfl|rw[hV],mm⟩;simp[results,Tryz.results96,go_sem,cc]
end Go.Proofs.YteidpgdfocjdbaaGreat.Ty
namespace Go.Proofs.YteidpgdfocjdbaaGreat.Ty
open Go Go.RowKit Go.Stg
abbrev Ty:=Int×List Fld
def tcell (p:Ty×Value):List Value:=[.int .i64 p.1.1,p.2]
theorem tcell_length (p:Ty×Value):(tcell p).length=2:=rfl
def fblocks (L:List (Ty×Value)):List Nat:=L.flatMap fun p=>p.2.ownBlock.toList
theorem fblocks_mem {L:List (Ty×Value)} {p:Ty×Value} (hp:p∈L) {x:Nat} (hx:p.2.ownBlock=some x):x∈fblocks L:=List.mem_flatMap.2 ⟨p,hp,by simp[hx]⟩
theorem mem_fblocks {L:List (Ty×Value)} {x:Nat} (hx:x∈fblocks L):∃p∈L,p.2.ownBlock=some x:=by
 obtain⟨p,hp,h⟩:=List.mem_flatMap.1 hx;exact⟨p,hp,by simpa using h⟩
theorem FieldsAt.lt {w:World} {v:Value} {fs:List Fld} (h:FieldsAt w v fs) {x:Nat} (hx:v.ownBlock=some x):x<w.heap.size:=by
 rcases h with⟨rfl,_⟩|⟨sb,so,cap,rfl,h2,_⟩
 ·simp[Value.ownBlock]at hx
 ·have hx':some sb=some x:=hx;obtain rfl:=Option.some.inj hx';exact h2
def fieldsC (L:List (Ty×Value)):Comp:=
 ⟨fun w f=>(∀p∈L,FieldsAt w p.2 p.1.2)∧f=fblocks L,
  fun h hm hT=>⟨fun p hp=>(h.1 p hp).modS hm fun x hx=>hT x (by rw[h.2];exact fblocks_mem hp hx),h.2⟩,
  fun h x hx=>by
  rw[h.2]at hx;obtain⟨p,hp,hx⟩:=mem_fblocks hx;exact(h.1 p hp).lt hx⟩
def regP (T:TypeId) (rb:Nat) (sv:Value) (L:List (Ty×Value)):List Comp:=
 [blockC rb (.cells #[sv] T (0,0)),rowC sv L.length 25 2 (flat tcell L),fieldsC L]
def TyOk (t:Ty):Prop:=errT t.1 t.2=0
theorem TyOk.bounds {t:Ty} (h:TyOk t):0≤t.1∧t.1≤65536∧t.2.length≤32:=by
 obtain⟨h1,h2,h3,_⟩:=errT_zero h;exact⟨h1,h2,h3⟩
def regOn (T:TypeId) (rb:Nat) (R:List Ty) (w:World) (f:List Nat):Prop:=∃sv L,L.map (·.1)=R∧(∀t∈R,TyOk t)∧R.length≤255∧Hold (regP T rb sv L) w f
def regC (T:TypeId) (rb:Nat) (R:List Ty):Comp:=
 ⟨regOn T rb R,fun⟨sv,L,h1,h2,h3,h4⟩ hm hT=>⟨sv,L,h1,h2,h3,h4.keep hm hT⟩,fun⟨_,_,_,_,_,h4⟩=>h4.lt⟩
theorem scene_fields {F:List Nat} {W w:World} {cs:List Comp} (i:Nat) {L:List (Ty×Value)} (h:Scene F W cs w) (hi:cs[i]? =some (fieldsC L)):∀p∈L,FieldsAt w p.2 p.1.2:=
 let ⟨_,h1,_⟩:=h.part i hi;h1.1
theorem ty_cells {w:World} {sv:Value} {n:Nat} {L:List (Ty×Value)} (h:w.ownsRow 0 25 2 sv n (flat tcell L)) (hn:L.length=n) {k:Nat} (hk:k<L.length):∃g cap,sv=.slice (some ⟨g,0,none⟩) n cap∧g<w.heap.size∧w.cell? ⟨g,k*2,none⟩=some (.int .i64 L[k].1.1)∧w.cell? ⟨g,k*2+1,none⟩=some L[k].2:=by
 obtain⟨g,cap,rfl,_,hg⟩:=row_pos h (by omega);have r0:=row_cell tcell_length h hk hn (k:=0) (by omega);have r1:=row_cell tcell_length h hk hn (k:=1) (by omega);exact⟨g,cap,rfl,hg,r0,r1⟩
def idxT (R:List Ty) (t:Ty):Int:=if t∈R then R.idxOf t else -1
theorem idxT_here {R:List Ty} {t:Ty} {k:Nat} (hk:k<R.length) (hno:t∉R.take k) (he:R[k]=t):idxT R t=k:=by
 have hm:t∈R:=he▸List.getElem_mem hk;unfold idxT;rw[if_pos hm];have h1:R.idxOf t=k:=by
  have hsp:R=R.take k++t::R.drop (k+1):=by
   rw[←he,List.getElem_cons_drop,List.take_append_drop]
  rw[hsp,List.idxOf_append,if_neg hno];simp;omega
 rw[h1]
theorem idxT_none {R:List Ty} {t:Ty} (h:t∉R):idxT R t= -1:=if_neg h
theorem same1_ok (len len':Int) (v v':Value) (fs fs':List Fld) (tb:Nat) (w:World) (h:FieldsAt w v fs) (h':FieldsAt w v' fs') (hb:w.heap[tb]? =some (.cells #[.int .i64 len,v] 25 (0,0))):
  Calls Tryz.prog 64 #[.agg #[.int .i64 len',v'],.pointer (some ⟨tb,0,none⟩)] w fun e w'=>e=.returned (.bool (decide ((len',fs')=(len,fs))))∧Mod [] w w':=by
 have hm0:=(Mod.refl [] w).alloc (.cells #[.int .i64 len',v'] 25);have q0:=at_alloc w (.cells #[.int .i64 len',v'] 25);have q1:=hm0.at hb (by simp);have hE:=Lib.hid (equal_ok v' v fs' fs _ (h'.mod hm0) (h.mod hm0));have c0:=cells_of q0;have c1:=cells_of q1;clear h h' hb;by_cases he:len'=len
 ·subst he;have z0:(len'==len')=true:=by simp
  go_enter Tryz.func64,Tryz.ntmps64;go_wp2_with fail;refine hE.out.mono ?_;rintro e w1 ⟨rfl,hm1⟩;go_wp2_with fail;go_ret;exact⟨by simp,hm0.nil_then hm1⟩
 ·have z0:(len'==len)=false:=by simp only[beq_eq_false_iff_ne];exact he
  have heH:=Lib.hid he;clear he;go_enter Tryz.func64,Tryz.ntmps64;go_wp2_with fail;go_ret;have:=heH.out;exact⟨by simp[this],hm0⟩
theorem indexf_ok (len:Int) (v:Value) (fs:List Fld) (tb:Nat) {sv:Value} {L:List (Ty×Value)} (w:World) (h:FieldsAt w v fs) (hb:w.heap[tb]? =some (.cells #[.int .i64 len,v] 25 (0,0)))
  (hrow:w.ownsRow 0 25 2 sv L.length (flat tcell L)) (hL:∀p∈L,FieldsAt w p.2 p.1.2) (hlen:L.length≤255):
  Calls Tryz.prog 66 #[sv,.func (.func 64) #[] #[.pointer (some ⟨tb,0,none⟩)]] w fun e w'=>e=.returned (.int .i64 (idxT (L.map (·.1)) (len,fs)))∧Mod [] w w':=by
 have hln:=fun ty w=>row_len (ty:=ty) Tryz.underlying40 hrow w
 have hH:=Lib.hid h;have hbH:=Lib.hid hb;have hrowH:=Lib.hid hrow;have hLH:=Lib.hid hL;obtain⟨q,hq⟩:∃q,idxT (L.map (·.1)) (len,fs)=q:=⟨_,rfl⟩;rw[hq];have hqH:=Lib.hid hq;clear hq h hb hrow hL;go_enter Tryz.func66,Tryz.ntmps66;go_wp2_with fail;go_loopw [8] (fun i wr=>∃k:Nat,k≤L.length∧i=.int .i64 k∧Mod [] w wr∧(len,fs)∉(L.map (·.1)).take k) (fun i _=>L.length-(intOf i).toNat)
 case atStart=>exact⟨0,by omega,rfl,Mod.refl _ _,by simp⟩
 case round=>
  obtain⟨k,hk,rfl,hm,hno⟩:=hrel;have hnoH:=Lib.hid hno;clear hno;by_cases hk1:k<L.length
  ·obtain⟨g,cap,rfl,hg,r0,r1⟩:=ty_cells (row_mod hrowH.out hm (by simp)) rfl hk1;have hFk:=(hLH.out _ (List.getElem_mem hk1)).mod hm;have hS:=Lib.hid (same1_ok len L[k].1.1 v L[k].2 fs L[k].1.2 tb wr (hH.out.mod hm) hFk (hm.at hbH.out (by simp)));have hHere:=Lib.hid fun he=>idxT_here (R:=L.map (·.1)) (by simpa using hk1) hnoH.out he
   have hNext:L[k].1≠(len,fs)→(len,fs)∉(L.map (·.1)).take (k+1):=fun hne hmem=>by
    rw[take_snoc _ (show k<(L.map (·.1)).length by simpa using hk1)]at hmem;rcases List.mem_append.1 hmem with h|h
    ·exact hnoH.out h
    ·rw[List.mem_singleton,List.getElem_map]at h;exact hne h.symm
   have hNextH:=Lib.hid hNext;have hge:(L.map (·.1))[k]'(by simpa using hk1)=L[k].1:=List.getElem_map _;have hgeH:=Lib.hid hge;clear hNext hFk hge;go_wp2_with fail;refine hS.out.mono ?_;rintro e w1 ⟨rfl,hm1⟩;by_cases he:(L[k].1.1,L[k].1.2)=(len,fs)
   ·have hd:decide ((L[k].1.1,L[k].1.2)=(len,fs))=true:=decide_eq_true he;rw[hd];have hq:=(hHere.out (hgeH.out.trans he)).symm.trans hqH.out;clear hd he r0 r1;go_wp2_with fail;go_ret;exact⟨by rw[←hq];rfl,hm.nil_then hm1⟩
   ·have hd:decide ((L[k].1.1,L[k].1.2)=(len,fs))=false:=decide_eq_false he;rw[hd];have hN:=Lib.hid (hNextH.out he);clear hd he r0 r1;go_wp2_with fail;go_roundw
    case rel=>exact⟨k+1,by omega,by go_num,hm.nil_then hm1,hN.out⟩
    case measure=>simp[intOf];omega
  ·have hno:(len,fs)∉L.map (·.1):=by
    have:=hnoH.out
    rwa [List.take_of_length_le (by simp;omega)]at this
   have hq:=(idxT_none hno).symm.trans hqH.out;have hqq:=Lib.hid hq;clear hq hno;go_wp2_with fail;go_ret;exact⟨by rw[←hqq.out];rfl,hm⟩
theorem list_ok {rb:Nat} {sv:Value} {w:World} (hb:w.heap[rb]? =some (.cells #[sv] 135 (0,0))):Calls Tryz.prog 78 #[.pointer (some ⟨rb,0,none⟩)] w fun e w'=>e=.returned sv∧Mod [] w w':=by
 have hcb:=cells_of hb;clear hb;go_enter Tryz.func78,Tryz.ntmps78;go_wp2_with fail;go_ret;exact⟨rfl,Mod.refl _ _⟩
end Go.Proofs.YteidpgdfocjdbaaGreat.Ty
namespace Go.Proofs.YteidpgdfocjdbaaGreat.Ty
open Go Go.RowKit Go.Stg
def pcells (fs:List Fld):Nat→List Value
 |0=>[]
 |k+1=>pcells fs k++(outC fs k (k+1)).toList
theorem outC_le (fs:List Fld) (i:Nat):outC fs i fs.length=outC fs i (i+1):=by
 unfold outC;have e:(0≤(i:Int)∧(i:Int).toNat<fs.length∧(i:Int).toNat<fs.length)=(0≤(i:Int)∧(i:Int).toNat<i+1∧(i:Int).toNat<fs.length):=by
  apply propext;constructor<;>rintro⟨h1,h2,h3⟩<;>exact⟨h1,by omega,h3⟩
 simp only[e]
theorem info_place:(Tryz.prog.info? 121).map (fun i=>(i.zero,i.size,i.bytes))=some (some (.agg #[.int .i64 0,.int .i64 0,.int .i64 0]),3,24):=by kernel_rfl
theorem cells3 (w:World) (a b c:Value) (T:TypeId):∀j u,[a,b,c][j]? =some u→(w.alloc (.cells #[a,b,c] T)).cell? ((⟨w.heap.size,0,none⟩:Addr).add j)=some u:=by
 intro j u h;have hadd:(⟨w.heap.size,0,none⟩:Addr).add j=⟨w.heap.size,j,none⟩:=by unfold Addr.add;split<;>simp_all
 rw[hadd,cells_of (at_alloc w _)];simpa using h
theorem rplaces_ok (v:Value) (fs:List Fld) (w:World) (h:FieldsAt w v fs) (hg:Good fs) (hl:fs.length≤100):
  Calls Tryz.prog 46 #[.agg #[.int .i64 0,v]] w fun e w'=>∃pv,e=.returned (.tuple #[pv,.int .i64 (sizeR fs)])∧Mod [] w w'∧w'.ownsRow 0 121 3 pv fs.length (pcells fs fs.length):=by
 obtain⟨i0,hi0,hz0,hz1,hz2⟩:=info_parts info_place;have hln:=fun ty w=>h.len ty w
 have q0:=at_alloc w (.cells #[.int .i64 0,v] 25);have hm0:=(Mod.refl [] w).alloc (.cells #[.int .i64 0,v] 25);have h':=h.mod hm0;go_enter Tryz.func46,Tryz.ntmps46;go_wp2_with fail;generalize w.alloc (.cells #[.int .i64 0,v] 25)=W at*;go_loopw [4,8,9,10] (fun pv en mo i wr=>∃k:Nat,k≤fs.length∧i=.int .i64 k∧en=.int .i64 (runL (fs.take k)).1∧mo=.int .i64 (runL (fs.take k)).2∧Mod [] W wr∧wr.ownsRow 0 121 3 pv k (pcells fs k)∧∀x,pv.ownBlock=some x→W.heap.size≤x) (fun _ _ _ i _=>fs.length-(intOf i).toNat)
 case atStart=>exact⟨0,by omega,rfl,rfl,rfl,Mod.refl _ _,World.ownsRow_nil _ _ _ _,by simp[Value.ownBlock]⟩
 case round=>
  obtain⟨k,hk,rfl,rfl,rfl,hm,hrow,hfrs⟩:=hrel;have r0:=hm.at q0 (by simp);have cb:=cells_of r0;by_cases hlt:k<fs.length
  ·rcases h' with⟨_,rfl⟩|⟨sb,so,cap,rfl,g2,g3,g4⟩
   ·simp at hlt
   ·have c1:=(cell_mod hm g2 (by simp)).trans (g4 k hlt).1;have c2:=(cell_mod hm g2 (by simp)).trans (g4 k hlt).2;obtain⟨g1,g21,g31,g41,g51⟩:=good_of (hg fs[k] (List.getElem_mem hlt));obtain⟨b1,b2,b3,b4⟩:=runL_take fs hg k hk;have hsn:runL (fs.take (k+1))=stepL (runL (fs.take k)) fs[k]:=by rw[take_snoc fs hlt,runL_snoc]
    have hoh:=outC_here hlt;have hpc:pcells fs (k+1)=pcells fs k++(outC fs k (k+1)).toList:=rfl;rw[hoh]at hpc;clear g4 hoh h;generalize fs[k]=f at*;generalize runL (fs.take k)=s at*;obtain⟨en,mo⟩:=s;obtain⟨fk,fc⟩:=f;simp only at g1 g21 b1 b2 b3 b4 c1 c2;have hu:=upI_bounds (n:=en) (k:=ali (fk,fc)) (by omega);have hpcH:=Lib.hid hpc;clear hpc;go_wp2_with fail;refine(rwidth_ok fk fc g1 g21 _).mono ?_;rintro e w1 ⟨rfl,hm1⟩;go_wp2_with fail;refine(up_okRUp en (ali (fk,fc)) (by omega) (by omega) (by omega) (by omega) _).mono ?_;rintro e w2 ⟨rfl,hm2⟩;have r2:=hm2.at (hm1.at r0 (by simp)) (by simp);have c1:=(cell_mod hm2 (hm1.lt (hm.lt g2)) (by simp)).trans ((cell_mod hm1 (hm.lt g2) (by simp)).trans c1);have hrow2:=row_mod (row_mod hrow hm1 (by simp)) hm2 (by simp);have hm2:=(hm.nil_then hm1).nil_then hm2;have cb2:=cells_of r2;clear hm hm1 r0 cb c2 hrow;have hst:stepL (en,mo) (fk,fc)=(upI en (ali (fk,fc))+wid (fk,fc),max mo (ali (fk,fc))):=rfl;rw[hst]at hsn;generalize hz:upI en (ali (fk,fc))=z at*;generalize hwd:wid (fk,fc)=wd at*;generalize hal:ali (fk,fc)=al at*;clear hst hz hwd hal;have h63:k+1≤maxLen:=by unfold maxLen;omega
    have hby:(k+1)*24≤140737488355328:=by omega
    have hsnH:=Lib.hid hsn;clear hsn;go_wp2_with (first|(at_builtin;refine wpList_append_row _ rfl _ _ 111 rfl 121 i0 (.agg #[.int .i64 0,.int .i64 0,.int .i64 0]) 3 24 Tryz.underlying111 hi0 hz0 hz1 hz2 rfl (by decide) u4 k (pcells fs k) rfl (hrow2.alloc _) ⟨w2.heap.size,0,none⟩ 1 1 [.int .i64 z,.int .i64 wd,.int .i64 fk] rfl rfl (cells3 _ _ _ _ _) (by simp[Value.oneCell']) h63 hby ?_;intro v' w3 hown3 hgrow hfr));have hm3:Mod [] W w3:=(hm2.alloc _).grown hgrow (fun j hj=>.inr (hfrs j hj));have hfr3:∀x,v'.ownBlock=some x→W.heap.size≤x:=fun x hx=>by
     rcases hfr x hx with h|h
     ·exact hfrs x h
     ·have:=hm2.size;simp at h;omega
    go_roundw
    case rel=>
     refine⟨k+1,by omega,by go_num,by rw[hsnH.out],by rw[hsnH.out];congr 1;omega,hm3,?_,hfr3⟩;rw[hpcH.out];exact hown3
    case measure=>simp[intOf];omega
  ·obtain rfl:k=fs.length:=by omega
   obtain⟨b1,b2,b3,b4⟩:=runL_bounds fs hg;have hsz:sizeR fs=upI (runL fs).1 (runL fs).2:=rfl;clear hg h;rw[List.take_length];generalize runL fs=s at*;obtain⟨en,mo⟩:=s;simp only at b1 b2 b3 b4 hsz;have hszH:=Lib.hid hsz;clear hsz;go_wp2_with fail;refine(up_okRUp en mo (by omega) (by omega) (by omega) (by omega) _).mono ?_;rintro e w1 ⟨rfl,hm1⟩;go_wp2_with fail;go_ret2;exact⟨u4,by rw[hszH.out];rfl,(hm0.nil_then hm).nil_then hm1,row_mod hrow hm1 (by simp)⟩
end Go.Proofs.YteidpgdfocjdbaaGreat.Ty
