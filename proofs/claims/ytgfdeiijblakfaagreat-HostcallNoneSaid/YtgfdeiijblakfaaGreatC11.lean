/- Joined contracts. No conditions. -/
import Derived.Test.YtgfdeiijblakfaaGreatCS
import Derived.Test.YtgfdeiijblakfaaGreatC07
import Derived.Test.YtgfdeiijblakfaaGreatC10
set_option maxHeartbeats 2000000
namespace Go.Proofs.YtgfdeiijblakfaaGreat.Ty
open Go Go.RowKit Go.Stg
theorem take_eq_snoc {α:Type} {l m:List α} {k:Nat} (hl:k<l.length) (hm:k<m.length) (h:l.take k=m.take k) (he:l[k]=m[k]):l.take (k+1)=m.take (k+1):=by
 rw[take_snoc l hl,take_snoc m hm,h,he]
theorem fields_get {w:World} {v:Value} {fs:List Fld} (h:FieldsAt w v fs) {k:Nat} (hk:k<fs.length):∃sb so cap,v=.slice (some ⟨sb,so,none⟩) fs.length cap∧sb<w.heap.size∧w.cell? ⟨sb,so+k*2,none⟩=some (.int .i64 fs[k].1)∧w.cell? ⟨sb,so+k*2+1,none⟩=some (.int .i64 fs[k].2):=by
 rcases h with⟨_,rfl⟩|⟨sb,so,cap,rfl,h2,h3,h4⟩
 ·simp at hk
 ·exact⟨sb,so,cap,rfl,h2,(h4 k hk).1,(h4 k hk).2⟩
theorem equal_ok (v v':Value) (fs fs':List Fld) (w:World) (h:FieldsAt w v fs) (h':FieldsAt w v' fs'):
  Calls Tryz.prog 33 #[v,v'] w fun e w'=>e=.returned (.bool (decide (fs=fs')))∧Mod [] w w':=by
 have hln:=fun ty w=>h.len ty w
 have hln':=fun ty w=>h'.len ty w
 have hs:=h.small;have hs':=h'.small;have hH:=Lib.hid h;have hH':=Lib.hid h';obtain⟨q,hq⟩:∃q,decide (fs=fs')=q:=⟨_,rfl⟩;rw[hq];have hqH:=Lib.hid hq;clear hq h h';by_cases hl:fs.length=fs'.length
 ·simp only[←hl]at hln';have hlH:=Lib.hid hl;clear hl;go_enter Tryz.func33,Tryz.ntmps33;go_wp2_with fail;go_loopw [13] (fun i wr=>∃k:Nat,k≤fs.length∧i=.int .i64 k∧Mod [] w wr∧fs.take k=fs'.take k) (fun i _=>fs.length-(intOf i).toNat)
  case atStart=>exact⟨0,by omega,rfl,Mod.refl _ _,by simp⟩
  case round=>
   obtain⟨k,hk,rfl,hm,ht⟩:=hrel;have htH:=Lib.hid ht;clear ht;by_cases hk1:k<fs.length
   ·have hk2:k<fs'.length:=by have:=hlH.out;omega
    obtain⟨sb,so,cap,rfl,g1,a1,a2⟩:=fields_get hH.out hk1;obtain⟨sb',so',cap',rfl,g1',a1',a2'⟩:=fields_get hH'.out hk2;have a1:=(cell_mod hm g1 (by simp)).trans a1;have a2:=(cell_mod hm g1 (by simp)).trans a2;have a1':=(cell_mod hm g1' (by simp)).trans a1';have a2':=(cell_mod hm g1' (by simp)).trans a2';have k1:=GW.cell1 (S:=[]) a1 (hm.lt g1) (by simp);have k2:=GW.cell1 (S:=[]) a2 (hm.lt g1) (by simp);have k3:=GW.cell1 (S:=[]) a1' (hm.lt g1') (by simp);have k4:=GW.cell1 (S:=[]) a2' (hm.lt g1') (by simp);have hne:fs[k]≠fs'[k]→fs≠fs':=fun h e=>h (by subst e;rfl)
    have hneH:=Lib.hid hne;have htk:=Lib.hid fun he=>take_eq_snoc hk1 hk2 htH.out he
    have hle:fs'.length=fs.length:=hlH.out.symm;have hlen':=Lib.hid hle;clear a1 a2 a1' a2' hne hle;generalize fs[k]=f at*;generalize fs'[k]=f' at*;obtain⟨f1,f2⟩:=f;obtain⟨f1',f2'⟩:=f';have bad:¬(f1=f1'∧f2=f2')→q=false:=fun hb=>by
     have h1:=hqH.out;rw[decide_eq_false (hneH.out fun e=>hb (by cases e;exact⟨rfl,rfl⟩))]at h1;exact h1.symm
    have badH:=Lib.hid bad;clear bad hneH;rw[hlen'.out]at*;clear hlen';by_cases e1:f1=f1'
    ·subst e1;by_cases e2:f2=f2'
     ·subst e2;have z1:(f1==f1)=true:=by simp
      have z2:(f2==f2)=true:=by simp
      clear badH;go_wp2_with fail;refine wp_region_pure (by kernel_rfl) (by kernel_rfl) ?_;refine stage_quiet 9 (by kernel_rfl) ?_;simp only[tA,tB,tC,tD];(repeat go_big_quiet_step (fail));refine wpQuiet_nil ?_;refine stage_nil fun w7 hm7=> ?_
      clear k1 k2 k3 k4;go_wp2_with fail;go_roundw
      case rel=>exact⟨k+1,by omega,by go_num,hm.nil_then hm7,htk.out (by first|trivial|rfl)⟩
      case measure=>simp[intOf];omega
     ·have z1:(f1==f1)=true:=by simp
      have z2:(f2==f2')=false:=by simp only[beq_eq_false_iff_ne];exact e2
      have hb:=badH.out (fun h=>e2 h.2);clear badH e2;subst hb;go_wp2_with fail;refine wp_region_pure (by kernel_rfl) (by kernel_rfl) ?_;refine stage_quiet 9 (by kernel_rfl) ?_;simp only[tA,tB,tC,tD];(repeat go_big_quiet_step (fail));refine wpQuiet_nil ?_;refine stage_nil fun w7 hm7=> ?_
      clear k1 k2 k3 k4;go_wp2_with fail;go_ret;exact⟨rfl,hm.nil_then hm7⟩
    ·have z1:(f1==f1')=false:=by simp only[beq_eq_false_iff_ne];exact e1
     have hb:=badH.out (fun h=>e1 h.1);clear badH e1;subst hb;go_wp2_with fail;refine wp_region_pure (by kernel_rfl) (by kernel_rfl) ?_;refine stage_quiet 9 (by kernel_rfl) ?_;simp only[tA,tB,tC,tD];(repeat go_big_quiet_step (fail));refine wpQuiet_nil ?_;refine stage_nil fun w7 hm7=> ?_
     clear k1 k2 k3 k4;go_wp2_with fail;go_ret;exact⟨rfl,hm.nil_then hm7⟩
   ·have hb:q=true:=by
     rw[←hqH.out,decide_eq_true_eq];have h1:=htH.out;rw[List.take_of_length_le (by omega),List.take_of_length_le (by have:=hlH.out;omega)]at h1;exact h1
    subst hb;go_wp2_with fail;go_ret;exact⟨rfl,hm⟩
 ·have hb:q=false:=by
   rw[←hqH.out,decide_eq_false_iff_not];exact fun e=>hl (by rw[e])
  subst hb;have z1:((fs.length:Int)==(fs'.length:Int))=false:=by simp only[beq_eq_false_iff_ne];omega
  clear hl;go_enter Tryz.func33,Tryz.ntmps33;go_wp2_with fail;go_ret;exact⟨rfl,Mod.refl _ _⟩
theorem fcells_oneCell (fs:List Fld):∀u∈fcells fs,u.oneCell'=true:=by
 intro u hu;unfold fcells at hu;rw[List.mem_flatMap]at hu;obtain⟨f,_,hu⟩:=hu;simp at hu;rcases hu with rfl|rfl<;>rfl
theorem fields_cells {w:World} {sb so cap n:Nat} {fs:List Fld} (h:FieldsAt w (.slice (some ⟨sb,so,none⟩) n cap) fs):∀j u,(fcells fs)[j]? =some u→w.cell? ((⟨sb,so,none⟩:Addr).add j)=some u:=by
 intro j u hu;rcases h with⟨h,_⟩|⟨sb',so',cap',h,h2,h3,h4⟩
 ·simp at h
 ·simp at h;obtain⟨⟨rfl,rfl⟩,rfl,rfl⟩:=h;obtain⟨hj,_⟩:=List.getElem?_eq_some_iff.1 hu;rw[fcells_length]at hj;have hk:j/2<fs.length:=by omega
  obtain⟨e1,e2⟩:=fcells_at fs (j/2) hk;obtain⟨a1,a2⟩:=h4 (j/2) hk;rw[add_at];rcases(show j=j/2*2∨j=j/2*2+1 by omega)with h|h
  ·rw[←h]at e1 a1;rw[hu]at e1;rw[a1,Option.some.inj e1]
  ·rw[←h]at e2;rw[show so+j/2*2+1=so+j by omega]at a2;rw[hu]at e2;rw[a2,Option.some.inj e2]
theorem clone_ok (v:Value) (fs:List Fld) (hl:fs.length≤100) (w:World) (h:FieldsAt w v fs):
  Calls Tryz.prog 68 #[v] w fun e w'=>∃v',e=.returned v'∧w'.ownsRow w.heap.size 35 2 v' fs.length (fcells fs)∧Mod [] w w':=by
 obtain⟨i0,hi0,hz0,hz1,hz2⟩:=info_parts info_field;rcases h with⟨rfl,rfl⟩|⟨sb,so,cap,rfl,g2,g3,g4⟩
 ·have hnil:=fun w=>Lib.run_eql_slice_nil (P:=Tryz.prog) w 36 35 none 0 0 0 0 Tryz.underlying36
  go_enter Tryz.func68,Tryz.ntmps68;go_wp2_with fail;go_ret;exact⟨_,rfl,World.ownsRow_nil _ _ _ _,Mod.refl _ _⟩
 ·have hown:(w.alloc (.cells #[] 35 (0,0))).ownsRow w.heap.size 35 2 (.slice (some ⟨w.heap.size,0,none⟩) 0 0) 0 []:=World.ownsRow_made w #[] 0 (Nat.le_refl _) (Nat.zero_le _) rfl;have hmA:=(Mod.refl [] w).alloc (.cells #[] 35 (0,0));have hF:FieldsAt (w.alloc (.cells #[] 35 (0,0))) (.slice (some ⟨sb,so,none⟩) fs.length cap) fs:=FieldsAt.mod (.inr ⟨sb,so,cap,rfl,g2,g3,g4⟩) hmA;have hcs:=Lib.hid (fields_cells hF);clear g4 hF;have h63:0+fs.length≤maxLen:=by unfold maxLen;omega
  have hby:(0+fs.length)*16≤140737488355328:=by omega
  have hfl:(fcells fs).length=fs.length*2:=fcells_length fs;have hfl:=Lib.hid hfl;have hnil:=fun w=>Lib.run_eql_slice_nil (P:=Tryz.prog) w 36 35 (some ⟨sb,so,none⟩) fs.length cap 0 0 Tryz.underlying36
  go_enter Tryz.func68,Tryz.ntmps68;go_wp2_with (at_builtin;refine wpList_append_row _ rfl _ _ 36 rfl 35 i0 (.agg #[.int .i64 0,.int .i64 0]) 2 16 Tryz.underlying36 hi0 hz0 hz1 hz2 rfl (by decide) (.slice (some ⟨w.heap.size,0,none⟩) 0 0) 0 [] rfl (row_base hown (Nat.zero_le _)) ⟨sb,so,none⟩ fs.length cap (fcells fs) rfl hfl.out hcs.out (fcells_oneCell fs) h63 hby ?_;intro v' w1 hown1 hgrow hfr;simp only[Nat.zero_add,List.nil_append]at hown1;have hown1:=Lib.hid hown1;have hgrow:=Lib.hid hgrow;have hfr:=Lib.hid hfr);go_ret;refine⟨_,rfl,row_all hown1.out fun g hg=> ?_,hmA.grown hgrow.out fun k hk=>.inr ?_⟩
  ·rcases hfr.out g hg with h|h
   ·have h':some w.heap.size=some g:=h;have:=Option.some.inj h';omega
   ·simp at h;omega
  ·have hk':some w.heap.size=some k:=hk;have:=Option.some.inj hk';omega
theorem copied_ok (len:Int) (v:Value) (fs:List Fld) (hl:fs.length≤100) (w:World) (h:FieldsAt w v fs):
  Calls Tryz.prog 35 #[.agg #[.int .i64 len,v]] w fun e w'=>∃v',e=.returned (.agg #[.int .i64 len,v'])∧w'.ownsRow w.heap.size 35 2 v' fs.length (fcells fs)∧Mod [] w w':=by
 have q0:=at_alloc_old (o:=.cells #[.int .i64 0,.slice none 0 0] 38) (at_alloc w (.cells #[.int .i64 len,v] 38));have q1:=at_alloc (w.alloc (.cells #[.int .i64 len,v] 38)) (.cells #[.int .i64 0,.slice none 0 0] 38);rw[World.size_alloc]at q1;have hm0:=((Mod.refl [] w).alloc (.cells #[.int .i64 len,v] 38)).alloc (.cells #[.int .i64 0,.slice none 0 0] 38);have hC:=Lib.hid (clone_ok v fs hl _ (h.mod hm0));clear h;go_enter Tryz.func35,Tryz.ntmps35;go_wp2_with fail;refine hC.out.mono ?_;rintro e w1 ⟨v',rfl,hrow,hm1⟩;obtain⟨va,vn,vc,rfl⟩:=row_slice hrow;have q0:=hm1.at q0 (by simp);have q1:=hm1.at q1 (by simp);have hm2:=hm0.nil_then hm1;have hlt:∀x,(Value.slice va vn vc).ownBlock=some x→w.heap.size+2≤x:=fun x hx=>by
  have:=(hrow.lt x hx).1;simp at this;omega
 have hrow:=Lib.hid (row_base (base':=w.heap.size) hrow (by simp;omega));have c0:=cells_of q0;have f0:=frozen_of q0;have c1:=cells_of q1;have f1:=frozen_of q1;go_wp2_with fail;have q2:=at_setCell_other (a:=⟨w.heap.size,1,none⟩) (v:=.slice va vn vc) q1 (by show w.heap.size+1≠w.heap.size;omega);have q3:=at_setCell (o:=1) (v:=.slice va vn vc) (at_setCell (o:=0) (v:=.int .i64 len) q2);have hm3:=((hm2.setCell (p:=⟨w.heap.size,1,none⟩) (.inr (Nat.le_refl _)) (.slice va vn vc)).setCell (p:=⟨w.heap.size+1,0,none⟩) (.inr (by show w.heap.size≤w.heap.size+1;omega)) (.int .i64 len)).setCell (p:=⟨w.heap.size+1,1,none⟩) (.inr (by show w.heap.size≤w.heap.size+1;omega)) (.slice va vn vc);have hms:=(((Mod.refl [w.heap.size,w.heap.size+1] w1).setCell (p:=⟨w.heap.size,1,none⟩) (.inl (by simp)) (.slice va vn vc)).setCell (p:=⟨w.heap.size+1,0,none⟩) (.inl (by simp)) (.int .i64 len)).setCell (p:=⟨w.heap.size+1,1,none⟩) (.inl (by simp)) (.slice va vn vc);have hr3:=row_mod hrow.out hms (fun g hg=>by have:=hlt g hg;simp;omega);have cc:=cells_of q3;refine bodyPost_ret (v:=.agg #[.int .i64 len,.slice va vn vc]) ?_ rfl ⟨_,rfl,hr3,hm3⟩;simp[results,Tryz.results35,go_sem,cc]
end Go.Proofs.YtgfdeiijblakfaaGreat.Ty
namespace Go.Proofs.YtgfdeiijblakfaaGreat.Ty
open Go Go.RowKit Go.Stg
theorem firstErr_zero {fs:List Fld} (h:firstErr fs=0):Good fs:=by
 induction fs with
 |nil=>intro f hf;simp at hf
 |cons f r ih=>
  unfold firstErr at h;by_cases he:errF f=0
  ·rw[if_neg (by simp[he])]at h;intro g hg;rcases List.mem_cons.1 hg with rfl|hg
   ·exact he
   ·exact ih h g hg
  ·rw[if_pos he]at h;exact absurd h he
theorem errT_zero {len:Int} {fs:List Fld} (h:errT len fs=0):0≤len∧len≤65536∧fs.length≤32∧Good fs∧sizeT len fs≤65536∧(0<len→fs.length=1)∧(len=0→0<fs.length):=by
 unfold errT at h;split at h
 ·simp at h
 ·split at h
  ·simp at h
  ·split at h
   ·simp at h
   ·rename_i hb;split at h
    ·simp at h
    ·split at h
     ·rename_i h5;exact absurd h h5
     ·rename_i h5;split at h
      ·simp at h
      ·have hg:=firstErr_zero (Decidable.byContradiction h5);refine⟨by omega,by omega,by omega,hg,by omega,fun hp=> ?_,fun h0=> ?_⟩
       ·exact Decidable.byContradiction fun hc=>hb (.inr ⟨hp,hc⟩)
       ·exact Nat.pos_of_ne_zero fun hc=>hb (.inl ⟨h0,hc⟩)
def sizeV (len:Int) (fs:List Fld):Value:=.tuple #[.int .i64 (if errT len fs=0 then sizeT len fs else 0),.int .i64 (errT len fs)]
theorem hd_eq {fs:List Fld} (h:fs.length=1):hd fs=fs[0]'(by omega):=by
 cases fs with
 |nil=>simp at h
 |cons f r=>rfl
section
variable (len:Int) (v:Value) (fs:List Fld) (w:World) (h:FieldsAt w v fs) (hn: -9223372036854775808≤len) (hn2:len≤9223372036854775807)
include h hn hn2
theorem sizeF_ok:Calls Tryz.prog 77 #[.agg #[.int .i64 len,v]] w fun e w'=>e=.returned (sizeV len fs)∧Mod [] w w':=by
 have q0:=at_alloc w (.cells #[.int .i64 len,v] 38);have hm0:=(Mod.refl [] w).alloc (.cells #[.int .i64 len,v] 38);have h':=h.mod hm0;have hln:=fun ty w=>h.len ty w
 have hE:=Lib.hid fun(w':World) (hm:Mod [] w w')=>check_ok len v fs w' (h.mod hm) hn hn2
 clear h;go_enter Tryz.func77,Tryz.ntmps77;go_wp2_with fail;refine(hE.out _ hm0).mono ?_;rintro e w1 ⟨rfl,hm1⟩;have q1:=hm1.at q0 (by simp);have h1:=h'.mod hm1;have cb:=cells_of q1;have hm1:=hm0.nil_then hm1;clear q0 hm0 h';by_cases he:errT len fs=0
 ·obtain⟨e1,e2,e3,e4,e5,e6,e7⟩:=errT_zero he;have hS:=Lib.hid (size_ok len v fs _ h1 e4 (by omega) e1 e2 e6);clear e6 e7;rw[he];go_wp2_with fail;refine hS.out.mono ?_;rintro e w2 ⟨rfl,hm2⟩;go_wp2_with fail;go_ret2;refine⟨?_,hm1.nil_then hm2⟩;simp[sizeV,he]
 ·go_wp2_with fail;go_ret2;refine⟨?_,hm1⟩;simp[sizeV,he]
end
end Go.Proofs.YtgfdeiijblakfaaGreat.Ty
namespace Go.Proofs.YtgfdeiijblakfaaGreat.Ty
open Go Go.RowKit Go.Stg
abbrev Ty:=Int×List Fld
def tcell (p:Ty×Value):List Value:=[.int .i64 p.1.1,p.2]
theorem tcell_length (p:Ty×Value):(tcell p).length=2:=rfl
def fblocks (L:List (Ty×Value)):List Nat:=L.flatMap fun p=>p.2.ownBlock.toList
theorem fblocks_mem {L:List (Ty×Value)} {p:Ty×Value} (hp:p∈L) {x:Nat} (hx:p.2.ownBlock=some x):x∈fblocks L:=List.mem_flatMap.2 ⟨p,hp,by simp[hx]⟩
theorem mem_fblocks {L:List (Ty×Value)} {x:Nat} (hx:x∈fblocks L):∃p∈L,p.2.ownBlock=some x:=by
 obtain⟨p,hp,h⟩:=List.mem_flatMap.1 hx;exact⟨p,hp,by simpa using h⟩
theorem FieldsAt.lt {w:World} {v:Value} {fs:List Fld} (h:FieldsAt w v fs) {x:Nat} (hx:v.ownBlock=some x):x<w.heap.size:=by
 rcases h with⟨rfl,_⟩|⟨sb,so,cap,rfl,h2,_⟩
 ·simp[Value.ownBlock]at hx
 ·have hx':some sb=some x:=hx;obtain rfl:=Option.some.inj hx';exact h2
def fieldsC (L:List (Ty×Value)):Comp:=
 ⟨fun w f=>(∀p∈L,FieldsAt w p.2 p.1.2)∧f=fblocks L,
  fun h hm hT=>⟨fun p hp=>(h.1 p hp).modS hm fun x hx=>hT x (by rw[h.2];exact fblocks_mem hp hx),h.2⟩,
  fun h x hx=>by
  rw[h.2]at hx;obtain⟨p,hp,hx⟩:=mem_fblocks hx;exact(h.1 p hp).lt hx⟩
def regP (T:TypeId) (rb:Nat) (sv:Value) (L:List (Ty×Value)):List Comp:=
 [blockC rb (.cells #[sv] T (0,0)),rowC sv L.length 38 2 (flat tcell L),fieldsC L]
def TyOk (t:Ty):Prop:=errT t.1 t.2=0
theorem TyOk.bounds {t:Ty} (h:TyOk t):0≤t.1∧t.1≤65536∧t.2.length≤32:=by
 obtain⟨h1,h2,h3,_⟩:=errT_zero h;exact⟨h1,h2,h3⟩
def regOn (T:TypeId) (rb:Nat) (R:List Ty) (w:World) (f:List Nat):Prop:=∃sv L,L.map (·.1)=R∧(∀t∈R,TyOk t)∧R.length≤255∧Hold (regP T rb sv L) w f
def regC (T:TypeId) (rb:Nat) (R:List Ty):Comp:=
 ⟨regOn T rb R,fun⟨sv,L,h1,h2,h3,h4⟩ hm hT=>⟨sv,L,h1,h2,h3,h4.keep hm hT⟩,fun⟨_,_,_,_,_,h4⟩=>h4.lt⟩
theorem scene_fields {F:List Nat} {W w:World} {cs:List Comp} (i:Nat) {L:List (Ty×Value)} (h:Scene F W cs w) (hi:cs[i]? =some (fieldsC L)):∀p∈L,FieldsAt w p.2 p.1.2:=
 let ⟨_,h1,_⟩:=h.part i hi;h1.1
theorem ty_cells {w:World} {sv:Value} {n:Nat} {L:List (Ty×Value)} (h:w.ownsRow 0 38 2 sv n (flat tcell L)) (hn:L.length=n) {k:Nat} (hk:k<L.length):∃g cap,sv=.slice (some ⟨g,0,none⟩) n cap∧g<w.heap.size∧w.cell? ⟨g,k*2,none⟩=some (.int .i64 L[k].1.1)∧w.cell? ⟨g,k*2+1,none⟩=some L[k].2:=by
 obtain⟨g,cap,rfl,_,hg⟩:=row_pos h (by omega);have r0:=row_cell tcell_length h hk hn (k:=0) (by omega);have r1:=row_cell tcell_length h hk hn (k:=1) (by omega);exact⟨g,cap,rfl,hg,r0,r1⟩
def idxT (R:List Ty) (t:Ty):Int:=if t∈R then R.idxOf t else -1
theorem idxT_here {R:List Ty} {t:Ty} {k:Nat} (hk:k<R.length) (hno:t∉R.take k) (he:R[k]=t):idxT R t=k:=by
 have hm:t∈R:=he▸List.getElem_mem hk;unfold idxT;rw[if_pos hm];have h1:R.idxOf t=k:=by
  have hsp:R=R.take k++t::R.drop (k+1):=by
   rw[←he,List.getElem_cons_drop,List.take_append_drop]
  rw[hsp,List.idxOf_append,if_neg hno];simp;omega
 rw[h1]
theorem idxT_none {R:List Ty} {t:Ty} (h:t∉R):idxT R t= -1:=if_neg h
theorem same1_ok (len len':Int) (v v':Value) (fs fs':List Fld) (tb:Nat) (w:World) (h:FieldsAt w v fs) (h':FieldsAt w v' fs') (hb:w.heap[tb]? =some (.cells #[.int .i64 len,v] 38 (0,0))):
  Calls Tryz.prog 32 #[.agg #[.int .i64 len',v'],.pointer (some ⟨tb,0,none⟩)] w fun e w'=>e=.returned (.bool (decide ((len',fs')=(len,fs))))∧Mod [] w w':=by
 have hm0:=(Mod.refl [] w).alloc (.cells #[.int .i64 len',v'] 38);have q0:=at_alloc w (.cells #[.int .i64 len',v'] 38);have q1:=hm0.at hb (by simp);have hE:=Lib.hid (equal_ok v' v fs' fs _ (h'.mod hm0) (h.mod hm0));have c0:=cells_of q0;have c1:=cells_of q1;clear h h' hb;by_cases he:len'=len
 ·subst he;have z0:(len'==len')=true:=by simp
  go_enter Tryz.func32,Tryz.ntmps32;go_wp2_with fail;refine hE.out.mono ?_;rintro e w1 ⟨rfl,hm1⟩;go_wp2_with fail;go_ret;exact⟨by simp,hm0.nil_then hm1⟩
 ·have z0:(len'==len)=false:=by simp only[beq_eq_false_iff_ne];exact he
  have heH:=Lib.hid he;clear he;go_enter Tryz.func32,Tryz.ntmps32;go_wp2_with fail;go_ret;have:=heH.out;exact⟨by simp[this],hm0⟩
theorem indexf_ok (len:Int) (v:Value) (fs:List Fld) (tb:Nat) {sv:Value} {L:List (Ty×Value)} (w:World) (h:FieldsAt w v fs) (hb:w.heap[tb]? =some (.cells #[.int .i64 len,v] 38 (0,0)))
  (hrow:w.ownsRow 0 38 2 sv L.length (flat tcell L)) (hL:∀p∈L,FieldsAt w p.2 p.1.2) (hlen:L.length≤255):
  Calls Tryz.prog 34 #[sv,.func (.func 32) #[] #[.pointer (some ⟨tb,0,none⟩)]] w fun e w'=>e=.returned (.int .i64 (idxT (L.map (·.1)) (len,fs)))∧Mod [] w w':=by
 have hln:=fun ty w=>row_len (ty:=ty) Tryz.underlying85 hrow w
 have hH:=Lib.hid h;have hbH:=Lib.hid hb;have hrowH:=Lib.hid hrow;have hLH:=Lib.hid hL;obtain⟨q,hq⟩:∃q,idxT (L.map (·.1)) (len,fs)=q:=⟨_,rfl⟩;rw[hq];have hqH:=Lib.hid hq;clear hq h hb hrow hL;go_enter Tryz.func34,Tryz.ntmps34;go_wp2_with fail;go_loopw [8] (fun i wr=>∃k:Nat,k≤L.length∧i=.int .i64 k∧Mod [] w wr∧(len,fs)∉(L.map (·.1)).take k) (fun i _=>L.length-(intOf i).toNat)
 case atStart=>exact⟨0,by omega,rfl,Mod.refl _ _,by simp⟩
 case round=>
  obtain⟨k,hk,rfl,hm,hno⟩:=hrel;have hnoH:=Lib.hid hno;clear hno;by_cases hk1:k<L.length
  ·obtain⟨g,cap,rfl,hg,r0,r1⟩:=ty_cells (row_mod hrowH.out hm (by simp)) rfl hk1;have hFk:=(hLH.out _ (List.getElem_mem hk1)).mod hm;have hS:=Lib.hid (same1_ok len L[k].1.1 v L[k].2 fs L[k].1.2 tb wr (hH.out.mod hm) hFk (hm.at hbH.out (by simp)));have hHere:=Lib.hid fun he=>idxT_here (R:=L.map (·.1)) (by simpa using hk1) hnoH.out he
   have hNext:L[k].1≠(len,fs)→(len,fs)∉(L.map (·.1)).take (k+1):=fun hne hmem=>by
    rw[take_snoc _ (show k<(L.map (·.1)).length by simpa using hk1)]at hmem;rcases List.mem_append.1 hmem with h|h
    ·exact hnoH.out h
    ·rw[List.mem_singleton,List.getElem_map]at h;exact hne h.symm
   have hNextH:=Lib.hid hNext;have hge:(L.map (·.1))[k]'(by simpa using hk1)=L[k].1:=List.getElem_map _;have hgeH:=Lib.hid hge;clear hNext hFk hge;go_wp2_with fail;refine hS.out.mono ?_;rintro e w1 ⟨rfl,hm1⟩;by_cases he:(L[k].1.1,L[k].1.2)=(len,fs)
   ·have hd:decide ((L[k].1.1,L[k].1.2)=(len,fs))=true:=decide_eq_true he;rw[hd];have hq:=(hHere.out (hgeH.out.trans he)).symm.trans hqH.out;clear hd he r0 r1;go_wp2_with fail;go_ret;exact⟨by rw[←hq];rfl,hm.nil_then hm1⟩
   ·have hd:decide ((L[k].1.1,L[k].1.2)=(len,fs))=false:=decide_eq_false he;rw[hd];have hN:=Lib.hid (hNextH.out he);clear hd he r0 r1;go_wp2_with fail;go_roundw
    case rel=>exact⟨k+1,by omega,by go_num,hm.nil_then hm1,hN.out⟩
    case measure=>simp[intOf];omega
  ·have hno:(len,fs)∉L.map (·.1):=by
    have:=hnoH.out
    rwa [List.take_of_length_le (by simp;omega)]at this
   have hq:=(idxT_none hno).symm.trans hqH.out;have hqq:=Lib.hid hq;clear hq hno;go_wp2_with fail;go_ret;exact⟨by rw[←hqq.out];rfl,hm⟩
theorem list_ok {rb:Nat} {sv:Value} {w:World} (hb:w.heap[rb]? =some (.cells #[sv] 87 (0,0))):Calls Tryz.prog 119 #[.pointer (some ⟨rb,0,none⟩)] w fun e w'=>e=.returned sv∧Mod [] w w':=by
 have hcb:=cells_of hb;clear hb;go_enter Tryz.func119,Tryz.ntmps119;go_wp2_with fail;go_ret;exact⟨rfl,Mod.refl _ _⟩
end Go.Proofs.YtgfdeiijblakfaaGreat.Ty
